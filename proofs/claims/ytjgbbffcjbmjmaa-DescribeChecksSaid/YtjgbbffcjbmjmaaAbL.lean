import Derived.Test.YtjgbbffcjbmjmaaAbK
namespace Go.Proofs.Ytjgbbffcjbmjmaa
open Go.RowKit
set_option linter.unusedSimpArgs false
set_option linter.unusedVariables false

/-! ### Many cells of a slot are written at once -/
theorem Rep.own_put {P : Program} {S : Nat → Prop} {w : World} {bs : List Nat} {v : Value} {e : TypeId} {es es' : List (List AV)} {sz : Nat} (h : Rep P S w bs v (.own e es)) (hnd : bs.Nodup) (hap : ∀ b ∈ bs, ¬ S b) (hi0 : sizeIs P e sz)
    {vs : List Value} {xs : List AV} (hr : RL (Rep P S w []) vs xs) (p : Nat) (hp : p + xs.length ≤ es.flatten.length) (hlen : es'.length = es.length) (hsz' : ∀ x ∈ es', x.length = sz) (hfe : es'.flatten = splice es.flatten p xs) (hpos : 0 < es.length) :
    ∃ g cap cur bs', v = .slice (some ⟨g, 0, none⟩) es.length cap ∧ w.heap[g]? = some (.cells cur e (0, 0)) ∧ p + vs.length ≤ cur.size ∧ g ∈ bs ∧
      Rep P S (w.setRow g (cur.toList.take p ++ vs ++ cur.toList.drop (p + vs.length)).toArray) bs' v (.own e es') ∧ bs'.Nodup ∧ (∀ b ∈ bs', b ∈ bs) := by
  obtain ⟨us, sz1, bss, rfl, hi, hsz, hown, hul, hbl, hc⟩ := h.own_inv
  obtain rfl := hi.inj hi0
  have hfl := flat_len hsz
  have hvx := hr.1
  rcases hown.2 with ⟨rfl, h0⟩ | ⟨g, cap, cur, rfl, -, hg, hnc, hcm, hcs, htake⟩
  · omega
  have hcl : es.length * sz1 ≤ cur.size := by rw [hcs]; exact Nat.mul_le_mul_right _ hnc
  have hl2 : p + vs.length ≤ us.length := by omega
  have hown' : (Value.slice (some ⟨g, 0, none⟩) es.length cap).ownBlock.toList = [g] := rfl
  rw [hown'] at hnd hap ⊢
  simp only [List.singleton_append, List.nodup_cons] at hnd
  have hb1 : (List.replicate vs.length ([] : List Nat)).length = vs.length := by simp
  refine ⟨g, cap, cur, [g] ++ (splice bss p (List.replicate vs.length [])).flatten, rfl, hg, by omega, by simp, ?_, ?_, ?_⟩
  · have hcur : (splice cur.toList p vs).take (es.length * sz1) = splice us p vs := by
      apply List.ext_getElem?
      intro q
      rw [splice_get us _ _ hl2, List.getElem?_take, splice_get cur.toList _ _ (by simp; omega)]
      by_cases hq : q < es.length * sz1
      · rw [if_pos hq]
        have : us[q]? = cur.toList[q]? := by rw [← htake, List.getElem?_take, if_pos hq]
        rw [this]
      · rw [if_neg hq, if_neg (by omega), if_neg (by omega), List.getElem?_eq_none (by omega)]
    have hg' := setRow_heap w g cur (splice cur.toList p vs).toArray e (0, 0) hg
    have ho' : (w.setRow g (splice cur.toList p vs).toArray).ownsRow 0 e sz1 (.slice (some ⟨g, 0, none⟩) es.length cap) es'.length (splice us p vs) := by
      rw [hlen]
      exact ⟨by rw [splice_len _ _ _ hl2, hul, hfl], .inr ⟨g, cap, _, rfl, Nat.zero_le _, hg', hnc, hcm, by rw [← hcs, ← Array.length_toList]; show (splice _ _ _).length = _; rw [splice_len _ _ _ (by simp; omega)]; simp, by simpa using hcur⟩⟩
    have hk : Kept (fun q => q ≠ g) w (w.setRow g (splice cur.toList p vs).toArray) := ⟨rfl, rfl, rfl, by simp, fun k _ hk => setRow_other w g k _ hk⟩
    have hfin : Rep P S (w.setRow g (splice cur.toList p vs).toArray) ([g] ++ (splice bss p (List.replicate vs.length [])).flatten) (.slice (some ⟨g, 0, none⟩) es'.length cap) (.own e es') := by
      rw [← hlen] at ho'
      refine Rep.own (us := splice us p vs) hi hsz' ho' ?_ ?_ ?_
      · rw [hfe, splice_len _ _ _ hl2, splice_len _ _ _ hp, hul]
      · rw [splice_len _ _ _ hl2, splice_len _ _ _ (by omega), hbl]
      · intro q u x b h1 h2 h3
        rw [hfe, splice_get _ _ _ hp] at h2
        rw [splice_get _ _ _ hl2] at h1
        rw [splice_get _ _ _ (by omega), hb1] at h3
        rw [← hvx] at h2
        have hgS : ∀ k, k < w.heap.size → S k → k ≠ g := fun k _ hk he => hap g (by simp) (he ▸ hk)
        have old : ∀ (u : Value) (x : AV) (b : List Nat), us[q]? = some u → es.flatten[q]? = some x → bss[q]? = some b → Rep P S (w.setRow g (splice cur.toList p vs).toArray) b u x := fun u x b h1 h2 h3 =>
          (hc q u x b h1 h2 h3).kept hk hgS fun b' hb' he => hnd.1 (he ▸ List.mem_flatten.2 ⟨b, List.mem_of_getElem? h3, hb'⟩)
        split at h1
        · rename_i h5; rw [if_pos h5] at h2 h3; exact old u x b h1 h2 h3
        · rename_i h5
          rw [if_neg h5] at h2 h3
          split at h1
          · rename_i h6
            rw [if_pos h6] at h2 h3
            have : b = [] := by rw [List.getElem?_replicate] at h3; split at h3 <;> simp_all
            subst this
            exact (hr.2 _ u x h1 h2).kept hk hgS (by simp)
          · rename_i h6; rw [if_neg h6] at h2 h3; exact old u x b h1 h2 h3
    rw [hlen] at hfin
    exact hfin
  · have hsp : (splice bss p (List.replicate vs.length [])).flatten = (bss.take p).flatten ++ (bss.drop (p + vs.length)).flatten := by unfold splice; simp
    have hsplit : bss.flatten = (bss.take p).flatten ++ (((bss.drop p).take vs.length).flatten ++ (bss.drop (p + vs.length)).flatten) := by
      rw [← List.flatten_append, ← List.flatten_append]
      congr 1
      have e1 : bss.drop (p + vs.length) = (bss.drop p).drop vs.length := by rw [List.drop_drop]
      rw [e1, List.take_append_drop, List.take_append_drop]
    have hn0 := hnd.2
    rw [hsplit, List.nodup_append, List.nodup_append] at hn0
    obtain ⟨n1, ⟨-, n2, -⟩, n3'⟩ := hn0
    have m1 : ∀ b ∈ (bss.take p).flatten, b ∈ bss.flatten := fun b hb => by rw [hsplit]; exact List.mem_append_left _ hb
    have m2 : ∀ b ∈ (bss.drop (p + vs.length)).flatten, b ∈ bss.flatten := fun b hb => by rw [hsplit]; exact List.mem_append_right _ (List.mem_append_right _ hb)
    rw [List.singleton_append, List.nodup_cons, hsp]
    refine ⟨fun h => ?_, ?_⟩
    · rcases List.mem_append.1 h with h | h
      · exact hnd.1 (m1 g h)
      · exact hnd.1 (m2 g h)
    · rw [List.nodup_append]
      exact ⟨n1, n2, fun a ha b hb he => n3' a ha b (List.mem_append_right _ hb) he⟩
  · intro b hb
    rcases List.mem_append.1 hb with h | h
    · exact List.mem_append_left _ h
    · have hsp : (splice bss p (List.replicate vs.length [])).flatten = (bss.take p).flatten ++ (bss.drop (p + vs.length)).flatten := by unfold splice; simp
      rw [hsp] at h
      have sub : ∀ l : List (List Nat), (∀ x ∈ l, x ∈ bss) → b ∈ l.flatten → b ∈ bss.flatten := fun l hl hb => by
        obtain ⟨y, h1, h2⟩ := List.mem_flatten.1 hb
        exact List.mem_flatten.2 ⟨y, hl y h1, h2⟩
      rcases List.mem_append.1 h with h | h
      · exact List.mem_append_right _ (sub _ (fun x hx => List.mem_of_mem_take hx) h)
      · exact List.mem_append_right _ (sub _ (fun x hx => List.mem_of_mem_drop hx) h)
section
variable {C : Cx} {o : Oper} {ev : Operand → AV} {T : Sl}
/-- A slot whose cells from place p on are written. -/
theorem put_core {S : Nat → Prop} {vals : List Value} {bss : List (List Nat)} {w : World} (hm : Mem C T S vals bss w) {r k : Nat} {e : TypeId} {es es' : List (List AV)} {sz : Nat} (hT : T.slots[r]? = some (k, .own e es)) (hi : sizeIs C.P e sz)
    {vs : List Value} {xs : List AV} (hr : RL (Rep C.P S w []) vs xs) (p : Nat) (hp : p + xs.length ≤ es.flatten.length) (hlen : es'.length = es.length) (hsz' : ∀ x ∈ es', x.length = sz) (hfe : es'.flatten = splice es.flatten p xs) (hpos : 0 < es.length) :
    ∃ g cap cur w' bss', vals[r]? = some (.slice (some ⟨g, 0, none⟩) es.length cap) ∧ w.heap[g]? = some (.cells cur e (0, 0)) ∧ p + vs.length ≤ cur.size ∧ w' = w.setRow g (cur.toList.take p ++ vs ++ cur.toList.drop (p + vs.length)).toArray ∧
      Mem C ⟨T.slots.set r (k, .own e es'), T.ep⟩ S vals bss' w' ∧ Follows C.P S w T vals S w' ⟨T.slots.set r (k, .own e es'), T.ep⟩ vals := by
  obtain ⟨v, bs, hv, hb, hrep⟩ := hm.slot hT
  obtain ⟨g, cap, cur, bs', rfl, hg, hfit, hgb, hrep', hnd', hsub⟩ := hrep.own_put (hm.nodup r bs hb) (hm.apart r bs hb) hi hr p hp hlen hsz' hfe hpos
  have hk : Kept (fun q => q ∉ bs) w (w.setRow g (cur.toList.take p ++ vs ++ cur.toList.drop (p + vs.length)).toArray) := ⟨rfl, rfl, rfl, by simp, fun k _ hk' => setRow_other w g k _ (fun e => hk' (e ▸ hgb))⟩
  obtain ⟨hm', hf⟩ := hm.set (k' := k) (ep' := T.ep) hT hv hb hk hrep' hnd' (fun b hb' => .inl (hsub b hb')) (.inl ⟨rfl, rfl, rfl, fun e' es'' h => by
    injection h with h3 h4
    subst h3; subst h4
    exact ⟨es, rfl, hlen.symm⟩, fun b ks h => by cases h⟩)
  have hvs : vals.set r (.slice (some ⟨g, 0, none⟩) es.length cap) = vals := by
    obtain ⟨hlt, hge⟩ := List.getElem?_eq_some_iff.1 hv
    rw [← hge]; exact List.set_getElem_self hlt
  rw [hvs] at hm' hf
  exact ⟨g, cap, cur, _, _, hv, hg, hfit, rfl, hm', hf⟩
/-- A slice s[l:h:m] that nobody looks at. -/
theorem op_slice3_any {t e : TypeId} {y q1 q2 q3 : Operand} {es : List (List AV)} {r k off len l hh m : Nat} {k1 k2 k3 : IntKind} (ho : o.op = .slice t y (some q1) (some q2) (some q3)) (hy : ev y = .sl r k off len) (hT : T.slots[r]? = some (k, .own e es)) (h1 : ev q1 = .v (.int k1 (l : Int))) (h2 : ev q2 = .v (.int k2 (hh : Int))) (h3 : ev q3 = .v (.int k3 (m : Int))) (hl : l ≤ hh) (hhm : hh ≤ m) (hml : m ≤ len) (ht : C.P.underlying t = some (.slice e)) : OpP C o ev T .any := by
  intro a w S vals bss hm h
  have h0 := h y (by simp [ho, Op.operands])
  have g1 := h q1 (by simp [ho, Op.operands])
  have g2 := h q2 (by simp [ho, Op.operands])
  have g3 := h q3 (by simp [ho, Op.operands])
  rw [hy] at h0
  rw [h1] at g1; rw [h2] at g2; rw [h3] at g3
  obtain ⟨v, bs, hv, hbb, hrep⟩ := hm.slot hT
  obtain ⟨us0, sz, bss0, -, hs, hsz0, hown, -⟩ := hrep.own_inv
  obtain ⟨hol, A, nn, cap, hve, p3, p4, p5, p6⟩ := h0.2.2 e es v sz hT hv hs
  obtain ⟨A', e1⟩ : ∃ A', a.eval y = .slice A' len (cap - off) := by
    rcases p6 with ⟨q1, q2⟩ | ⟨A', q1, q2, q3⟩
    · exact ⟨A, by rw [q2, q1, Nat.sub_zero]⟩
    · exact ⟨A', q2⟩
  have hb : ∀ w', (Instr.sliceBounds true len (cap - off) (some (a.eval q1)) (some (a.eval q2)) (some (a.eval q3))).run C.P w' = .ok (l, hh, m) w' := fun w' => by
    rw [TmpOK.v g1, TmpOK.v g2, TmpOK.v g3]
    have c1 : m ≤ cap - off := by omega
    simp [Instr.sliceBounds, Instr.sliceBound, asIntOf, c1, hl, hhm, Nat.max_eq_left]
  refine ⟨_, fun w' => by simp only [execOp, ho, e1, Sem.run_bind, Option.map_some, run_slice_ ht hs w' (hb w'), Result.andThen_ok, Sem.run_pure]; rfl, TmpOK.any_⟩
theorem splice_take_drop {es rows : List (List AV)} {sz : Nat} (h1 : ∀ x ∈ es, x.length = sz) (h2 : ∀ x ∈ rows, x.length = sz) (i : Nat) (hi : i + rows.length ≤ es.length) : (splice es i rows).flatten = splice es.flatten (i * sz) rows.flatten := by
  have e1 : (es.take i).flatten = es.flatten.take (i * sz) := by have := flat_cut h1 0 i; simpa using this
  have e2 : (es.drop (i + rows.length)).flatten = es.flatten.drop (i * sz + rows.flatten.length) := by
    have := flat_cut h1 (i + rows.length) es.length
    rw [List.take_of_length_le (by simp), List.take_of_length_le (by simp [flat_len h1])] at this
    rw [this, flat_len h2, Nat.add_mul]
  unfold splice
  rw [List.flatten_append, List.flatten_append, e1, e2]
theorem mem_splice {α : Type} {l xs : List α} {i : Nat} {x : α} (h : x ∈ splice l i xs) : x ∈ l ∨ x ∈ xs := by
  unfold splice at h
  rcases List.mem_append.1 h with h | h
  · rcases List.mem_append.1 h with h | h
    · exact .inl (List.mem_of_mem_take h)
    · exact .inr h
  · exact .inl (List.mem_of_mem_drop h)
/-- append to the beginning of a slice, within its length: the cells behind are written over. -/
theorem op_app_in {t e : TypeId} {y s : Operand} {z : Value} {sz b : Nat} {r k i n : Nat} {es rows es' : List (List AV)} {sv : AV} (ho : o.op = .call { callee := .builtin .append, args := #[y, s], argTypes := #[t, t] }) (hy : ev y = .sl r k 0 i) (hs : ev s = sv) (hT : T.slots[r]? = some (k, .own e es)) (hsrc : Src T sv rows)
    (ht : C.P.underlying t = some (.slice e)) (hz : zeroIs C.P e z sz b) (hsz : ∀ x ∈ rows, x.length = sz) (hfit : i + rows.length ≤ es.length) (hpos : 0 < es.length) (he : splice es i rows = es') (hn : i + rows.length = n) :
    OpJ C o ev T (.sl r k 0 n) ⟨T.slots.set r (k, .own e es'), T.ep⟩ := by
  subst he; subst hn
  intro a w S vals bss hm h K hK Q
  have h1 := h y (by simp [ho, Op.operands, Call.operands])
  have h2 := h s (by simp [ho, Op.operands, Call.operands])
  rw [hy] at h1
  rw [hs] at h2
  obtain ⟨v, bs, hv, hbb, hrep⟩ := hm.slot hT
  obtain ⟨us0, sz0, bss0, -, hi0, hsz0, hown, -⟩ := hrep.own_inv
  obtain rfl := hi0.inj hz.size
  obtain ⟨A, c, us, sz', e1, h3, h4, h5, h6, h7⟩ := src_cells hm hsrc h2
  have hfl := flat_len hsz0
  have hfr := flat_len hsz
  obtain ⟨g, cap, cur, w', bss', hvv, hg, hcur, hw', hm', hf⟩ := put_core hm hT hi0 h6 (i * sz0) (by rw [hfl, hfr, ← Nat.add_mul]; exact Nat.mul_le_mul_right _ hfit) (es' := splice es i rows) (splice_len _ _ _ hfit) (fun x hx => (mem_splice hx).elim (hsz0 x) (hsz x)) (splice_take_drop hsz0 hsz i hfit) hpos
  rw [hv] at hvv
  injection hvv with hvv
  subst hvv
  obtain ⟨hol, A0, nn, cap0, hve, g3, g4, g5, g6⟩ := h1.2.2 e es _ sz0 hT hv hi0
  injection hve with q1 q2 q3
  subst q1; subst q2; subst q3
  have hyv : a.eval y = .slice (some ⟨g, 0, none⟩) i cap := by
    rcases g6 with ⟨-, h8⟩ | ⟨A', h8, _⟩
    · exact h8
    · omega
  have hul : us.length = rows.length * sz0 := by rw [h6.1, hfr]
  have hld : (Builtin.firstCells sz0 rows.length (.slice A rows.length c)).run C.P w = .ok us.toArray w := by
    rcases Nat.eq_zero_or_pos us.length with h0 | h0
    · obtain rfl := List.eq_nil_of_length_eq_zero h0
      have : rows.length * sz0 = 0 := by rw [← hul]; rfl
      cases A <;> simp [Builtin.firstCells, this, loadCells, loadCellsFrom]
    · obtain ⟨g2, o2, hA, hc⟩ := h7 h0
      subst hA
      have := run_loadCells_list (P := C.P) w ⟨g2, o2, none⟩ us (fun j v hj => by rw [add_off]; exact hc j v hj)
      simp only [Builtin.firstCells]
      rw [← hul]; exact this
  have hst := run_storeCells_at C.P g (i * sz0) e us 0 cur w hg (by simpa using hcur) (fun u hu => by
    obtain ⟨q, hq, rfl⟩ := List.getElem_of_mem hu
    exact (h6.2 q _ (rows.flatten[q]'(by rw [← h6.1]; exact hq)) (List.getElem?_eq_getElem _) (List.getElem?_eq_getElem _)).one)
  simp only [Nat.add_zero] at hst
  rw [← hw'] at hst
  have hneed : i + rows.length ≤ cap := by omega
  have hrun : (Builtin.append_ #[t, t] o.type #[.slice (some ⟨g, 0, none⟩) i cap, .slice A rows.length c]).run C.P w = .ok (.slice (some ⟨g, 0, none⟩) (i + rows.length) cap) w' := by
    have hadd : (⟨g, 0, none⟩ : Addr).add (i * sz0) = ⟨g, i * sz0, none⟩ := by rw [add_off, Nat.zero_add]
    simp [Builtin.append_, run_underlying ht, run_sizeOf hi0, Builtin.lenOf, hneed, hld, hadd, hst]
  unfold Oper.wp execOp
  simp only [ho, resolve, invoke, builtin, Sem.run_bind, Sem.run_pure, Result.andThen_ok, List.map_toArray, List.map_cons, List.map_nil, hyv, e1, hrun]
  refine hK _ w' S vals bss' hm' hf ⟨h1.1, rfl, fun e2 es2 v2 sz2 q1 q2 q3 => ?_⟩
  have hrl : r < T.slots.length := (List.getElem?_eq_some_iff.1 hT).1
  have q1 : (T.slots.set r _)[r]? = _ := q1
  rw [getElem?_set_ _ _ _ _ hrl, if_pos rfl] at q1
  injection q1 with q1; injection q1 with _ q1; injection q1 with q1 q4
  subst q1; subst q4
  rw [hv] at q2
  injection q2 with q2
  subst q2
  exact ⟨by rw [splice_len _ _ _ hfit]; omega, _, _, cap, rfl, by omega, g4, g5, .inl ⟨rfl, rfl⟩⟩
theorem zeroCells_rl {P : Program} {S : Nat → Prop} {w : World} {t : TypeId} {z : Value} {sz b : Nat} (hz : zeroIs P t z sz b) (n : Nat) : RL (Rep P S w []) (Builtin.zeroCells z.cells n).toList (List.replicate n (z.cells.toList.map .v)).flatten := by
  have := madeCells_rl (S := S) (w := w) hz n
  have e : (Builtin.zeroCells z.cells n).toList = (madeCells z.cells (n * sz)).toList := by
    obtain ⟨-, h2, -⟩ := hz
    apply List.ext_getElem?
    intro i
    unfold Builtin.zeroCells madeCells
    rw [h2]
    first | rfl | simp [h2] | skip
  rw [e]; exact this
/-- clear: the cells of part of a slice are zero. -/
theorem op_clear {t e : TypeId} {y : Operand} {z : Value} {sz b : Nat} {r k off len : Nat} {es es' : List (List AV)} {row : List AV} (ho : o.op = .call { callee := .builtin .clear, args := #[y], argTypes := #[t] }) (hy : ev y = .sl r k off len) (hT : T.slots[r]? = some (k, .own e es))
    (ht : C.P.underlying t = some (.slice e)) (hz : zeroIs C.P e z sz b) (hrow : z.cells.toList.map .v = row) (he : splice es off (List.replicate len row) = es') :
    OpJ C o ev T .any ⟨T.slots.set r (k, .own e es'), T.ep⟩ := by
  subst he
  intro a w S vals bss hm h K hK Q
  have h1 := h y (by simp [ho, Op.operands, Call.operands])
  rw [hy] at h1
  obtain ⟨v, bs, hv, hbb, hrep⟩ := hm.slot hT
  obtain ⟨us0, sz0, bss0, -, hi0, hsz0, hown, -⟩ := hrep.own_inv
  obtain rfl := hi0.inj hz.size
  obtain ⟨hol, A0, nn, cap0, hve, g3, g4, g5, g6⟩ := h1.2.2 e es _ sz0 hT hv hi0
  have hrl : r < T.slots.length := (List.getElem?_eq_some_iff.1 hT).1
  rcases Nat.eq_zero_or_pos len with hl0 | hl0
  · subst hl0
    have hset : T.slots.set r (k, AV.own e (splice es off (List.replicate 0 row))) = T.slots := by
      rw [show splice es off (List.replicate 0 row) = es by simp [splice]]
      obtain ⟨hlt, hge⟩ := List.getElem?_eq_some_iff.1 hT
      rw [← hge]; exact List.set_getElem_self hlt
    rw [hset] at hK
    obtain ⟨A', c', hyv⟩ : ∃ A' c', a.eval y = .slice A' 0 c' := by
      rcases g6 with ⟨-, h8⟩ | ⟨A', _, h8, _⟩
      · exact ⟨_, _, h8⟩
      · exact ⟨_, _, h8⟩
    have hrun : (Builtin.clear_ #[t] o.type #[.slice A' 0 c']).run C.P w = .ok (.tuple #[]) w := by
      cases A' <;> simp [Builtin.clear_, run_underlying ht]
    unfold Oper.wp execOp
    simp only [ho, resolve, invoke, builtin, Sem.run_bind, Sem.run_pure, Result.andThen_ok, List.map_toArray, List.map_cons, List.map_nil, hyv, hrun]
    exact hK _ w S vals bss hm Follows.refl trivial
  · have hfl := flat_len hsz0
    have hzl : row.length = sz0 := by rw [← hrow, List.length_map, Array.length_toList]; exact hz.2.1
    have hrs : ∀ x ∈ List.replicate len row, x.length = sz0 := fun x hx => by rw [(List.mem_replicate.1 hx).2]; exact hzl
    have hfr := flat_len hrs
    have hr0 := zeroCells_rl (S := S) (w := w) hz len
    rw [hrow] at hr0
    have hfit : off + (List.replicate len row).length ≤ es.length := by rw [List.length_replicate]; exact hol
    obtain ⟨g, cap, cur, w', bss', hvv, hg, hcur, hw', hm', hf⟩ := put_core hm hT hi0 hr0 (off * sz0) (by rw [hfl, hfr, ← Nat.add_mul]; exact Nat.mul_le_mul_right _ hfit) (es' := splice es off (List.replicate len row)) (splice_len _ _ _ hfit) (fun x hx => (mem_splice hx).elim (hsz0 x) (hrs x)) (splice_take_drop hsz0 hrs off hfit) (by omega)
    rw [hv] at hvv
    injection hvv with hvv
    subst hvv
    injection hve with q1 q2 q3
    subst q1; subst q2; subst q3
    obtain ⟨c', hyv⟩ : ∃ c', a.eval y = .slice (some ⟨g, off * sz0, none⟩) len c' := by
      rcases g6 with ⟨h7, h8⟩ | ⟨A', h7, h8, h9⟩
      · subst h7; exact ⟨_, by rw [h8, Nat.zero_mul]⟩
      · obtain ⟨g', e1, e2⟩ := h9 hl0
        injection e1 with e1; injection e1 with e1
        subst e1
        exact ⟨_, by rw [h8, e2]⟩
    have hst := run_storeCells_at C.P g (off * sz0) e (Builtin.zeroCells z.cells len).toList 0 cur w hg (by simpa using hcur) (fun u hu => by
      obtain ⟨q, hq, rfl⟩ := List.getElem_of_mem hu
      exact (hr0.2 q _ ((List.replicate len row).flatten[q]'(by rw [← hr0.1]; exact hq)) (List.getElem?_eq_getElem _) (List.getElem?_eq_getElem _)).one)
    simp only [Nat.add_zero] at hst
    rw [← hw'] at hst
    have hrun : (Builtin.clear_ #[t] o.type #[.slice (some ⟨g, off * sz0, none⟩) len c']).run C.P w = .ok (.tuple #[]) w' := by
      obtain ⟨m, rfl⟩ : ∃ m, len = m + 1 := ⟨len - 1, by omega⟩
      simp [Builtin.clear_, run_underlying ht, hz.run, hst]
    unfold Oper.wp execOp
    simp only [ho, resolve, invoke, builtin, Sem.run_bind, Sem.run_pure, Result.andThen_ok, List.map_toArray, List.map_cons, List.map_nil, hyv, hrun]
    exact hK _ w' S vals bss' hm' hf trivial
/-- .. beyond its length, within its slot. -/
theorem op_slice_cap {t e : TypeId} {y : Operand} {lo hi : Option Operand} {es : List (List AV)} {r k len : Nat} (l hh : Nat) (ho : o.op = .slice t y lo hi none) (hy : ev y = .sl r k 0 len) (hT : T.slots[r]? = some (k, .own e es)) (hl : bndIs ev lo 0 l) (hhi : bndIs ev hi len hh) (h1 : l ≤ hh) (h2 : hh ≤ es.length) (ht : C.P.underlying t = some (.slice e))
    {off' len' : Nat} (he : l = off') (he' : hh - l = len') : OpP C o ev T (.sl r k off' len') := by
  intro a w S vals bss hm h
  have h3 := h y (by simp [ho, Op.operands])
  rw [hy] at h3
  obtain ⟨v, bs, hv, hbb, hrep⟩ := hm.slot hT
  obtain ⟨us0, sz, bss0, -, hs, hsz0, hown, -⟩ := hrep.own_inv
  have hnn : ∀ A nn cap, v = .slice A nn cap → es.length = nn := fun A nn cap hve => by
    rcases hown.2 with ⟨hnil, h0'⟩ | ⟨g, cap', cur, hcap, -⟩
    · rw [hve] at hnil; injection hnil with q1 q2 q3; omega
    · rw [hve] at hcap; injection hcap with q1 q2 q3; omega
  obtain ⟨hol, A, nn, cap, hve, g3, g4, g5, g6⟩ := h3.2.2 e es v sz hT hv hs
  obtain ⟨A', e1, hA'⟩ : ∃ A', a.eval y = .slice A' len (cap - 0) ∧ ((0 = 0 ∧ A' = A) ∨ (0 < 0 ∧ (0 < len → ∃ g, A = some ⟨g, 0, none⟩ ∧ A' = some ⟨g, 0 * sz, none⟩))) := by
    rcases g6 with ⟨q1, q2⟩ | ⟨A', q1, q2, q3⟩
    · exact ⟨A, by rw [q2, q1, Nat.sub_zero], .inl ⟨q1, rfl⟩⟩
    · exact ⟨A', q2, .inr ⟨q1, q3⟩⟩
  have hb := fun w' => run_bounds (P := C.P) (T := T) (a := a) (ev := ev) (lo := lo) (hi := hi) true hl hhi h1 (show hh ≤ cap - 0 by have := hnn _ _ _ hve; omega) (fun y hy => h y (by rcases hy with rfl | rfl <;> simp [ho, Op.operands])) w'
  refine ⟨_, fun w' => by simp only [execOp, ho, e1, Sem.run_bind, Option.map_none, run_slice_ ht hs w' (hb w'), Result.andThen_ok, Sem.run_pure]; rfl, ⟨h3.1, rfl, ?_⟩⟩
  intro e2 es2 v2 sz2 q1 q2 q3
  rw [hT] at q1
  injection q1 with q1; injection q1 with _ q1; injection q1 with q1 q4
  subst q1; subst q4
  rw [hv] at q2
  injection q2 with q2
  subst q2
  have := hs.inj q3
  subst this
  subst he; subst he'
  have hnn' := hnn _ _ _ hve
  refine ⟨by omega, A, nn, cap, hve, by omega, g4, g5, ?_⟩
  rcases hA' with ⟨h0, rfl⟩ | ⟨h0, hg⟩
  · rcases Nat.eq_zero_or_pos l with hl0 | hl0
    · subst hl0
      left
      refine ⟨rfl, ?_⟩
      rw [Nat.zero_mul, Nat.sub_zero, Nat.sub_zero]
      have : A'.map (·.add 0) = A' := by cases A' <;> simp [Addr.add]
      rw [this]
      split <;> rfl
    · right
      refine ⟨_, by omega, by rw [Nat.sub_zero], fun hn => ?_⟩
      rcases hown.2 with ⟨hnil, h0'⟩ | ⟨g, cap', cur, hcap, -⟩
      · omega
      · rw [hve] at hcap
        injection hcap with p1 p2 p3
        subst p1
        exact ⟨g, rfl, by rw [if_neg (by omega), Option.map_some, add_off]; simp⟩
  · omega
end
section
variable {P : Program} {fn : Func} {σ : Sta} {e : Exit}
/-- The end of a body that gives back part of the slot that came in. -/
theorem RQ.keep1 {t : Nat} {y out : AV} (hr : fn.results.toList = [.tmp t]) (ht : t < σ.n) (hy : σ.env t = y) (hc : cloA 1 y = true) (ho : σ.T.slots[0]? = some (0, out)) (he : e = .ret ∨ e = .normal := by first | exact .inl rfl | exact .inr rfl) : RQ P fn 1 (fun a b => a = [y] ∧ b = [out]) e σ := by
  have h : ∃ zs ys used outs, RL (ResIs P σ) fn.results.toList zs ∧ Gives σ.T 1 used zs ys ∧ outs.length = 1 ∧ (∀ (r : Nat) (x : AV), outs[r]? = some x → σ.T.slots[r]? = some (0, x)) ∧ (ys = [y] ∧ outs = [out]) := by
    refine ⟨[y], [y], [], [out], by rw [hr]; exact RL.cons ⟨ht, hy⟩ RL.nil, .keep hc .nil, rfl, fun r x hx => ?_, rfl, rfl⟩
    cases r with
    | zero => simp at hx; subst hx; exact ho
    | succ r => simp at hx
  rcases he with rfl | rfl <;> exact h
end
section
variable {C : Cx} {σ : Sta} {Q : Exit → Sta → Prop}
/-- A box is only read from now on. -/
theorem Gh.freezeP {e : TypeId} {row : List AV} {r k : Nat} (t : Nat) (ht : t < σ.n) (hv : σ.env t = .ptr r k 0 0) (hT : σ.T.slots[r]? = some (k, .own e [row])) (hx : ∀ c ∈ row, flatA c = true) :
    Gh C σ ⟨upd σ.env t (.rop row), ⟨σ.T.slots.set r (k, .any), σ.T.ep⟩, σ.n⟩ := by
  generalize hes : [row] = es at hT
  replace hx : ∀ r ∈ es, ∀ c ∈ r, flatA c = true := fun r hr => by rw [← hes] at hr; rw [List.mem_singleton.1 hr]; exact hx
  intro a w ⟨hd, hn, S, vals, bss, hm, he⟩
  obtain ⟨v, bs, hv2, hb, hrep⟩ := hm.slot hT
  obtain ⟨us, A, c, sz, hve, p1, p2, hsz, hi, hul, hcc, hcell⟩ := rep_freeze hrep hx
  have hrl : r < σ.T.slots.length := (List.getElem?_eq_some_iff.1 hT).1
  have hSS : ∀ q, S q → S q ∨ q ∈ bs := fun q h => .inl h
  have hf : Follows C.P S w σ.T vals (fun q => S q ∨ q ∈ bs) w ⟨σ.T.slots.set r (k, .any), σ.T.ep⟩ vals := by
    intro u x hx
    have key2 : ∀ (q kq : Nat) (x : AV), (σ.T.slots.set r (k, .any))[q]? = some (kq, x) → x ≠ .any → σ.T.slots[q]? = some (kq, x) := by
      intro q kq x q1 hne
      rw [getElem?_set_ _ _ _ _ hrl] at q1
      split at q1
      · injection q1 with q1; injection q1 with _ q1; exact absurd q1.symm hne
      · exact q1
    cases x with
    | sl r k off len => exact ⟨hx.1, hx.2.1, fun e es v sz q1 q2 q3 => hx.2.2 e es v sz (key2 _ _ _ q1 (by simp)) q2 q3⟩
    | ptr r k i j => exact ⟨hx.1, hx.2.1, fun e es v sz q1 q2 q3 => hx.2.2 e es v sz (key2 _ _ _ q1 (by simp)) q2 q3⟩
    | mp r k => exact ⟨hx.1, hx.2.1, fun b ks v q1 q2 => hx.2.2 b ks v (key2 _ _ _ q1 (by simp)) q2⟩
    | _ => exact RefOK.kept (T := σ.T) (vals := vals) hx (Kept.refl (fun _ => True) w) (fun _ _ _ => trivial) hSS
  have hbt : ∀ (q : Nat) (b1 : List Nat), (bss.set r [])[q]? = some b1 → (b1 = [] ∧ q = r) ∨ (q ≠ r ∧ bss[q]? = some b1) := by
    intro q b1 h
    rw [getElem?_set_ _ _ _ _ (by rw [hm.nb]; exact hrl)] at h
    split at h
    · rename_i e1; injection h with h; exact .inl ⟨h.symm, e1.symm⟩
    · rename_i e1; exact .inr ⟨fun e => e1 e.symm, h⟩
  refine ⟨hd, hn, fun q => S q ∨ q ∈ bs, vals, bss.set r [], ⟨hm.kept, fun q h => .inl (hm.s0 q h), fun q h => ?_, fun q h => ?_, by simp [hm.nv], by simp [hm.nb], ?_, ?_, ?_, ?_, ?_, ?_, ?_, hm.pos⟩, fun q hq => ?_⟩
  · rcases h with h | h
    · exact hm.sub q h
    · rcases hm.mine r bs hb q h with h | h
      · exact .inr (.inl h)
      · exact .inr (.inr h)
  · rcases h with h | h
    · exact hm.lt q h
    · exact hm.blt hb q h
  · intro q kq y u b1 q1 q2 q3
    rw [getElem?_set_ _ _ _ _ hrl] at q1
    rcases hbt q b1 q3 with ⟨rfl, rfl⟩ | ⟨hne, q4⟩
    · rw [if_pos rfl] at q1
      injection q1 with q1; injection q1 with _ q1
      subst q1
      rw [hv2] at q2
      injection q2 with q2
      subst q2
      exact .any hrep.one
    · rw [if_neg (fun e => hne e.symm)] at q1
      exact (hm.rep q kq y u b1 q1 q2 q4).mono fun _ _ h => .inl h
  · intro q b1 q1
    rcases hbt q b1 q1 with ⟨rfl, rfl⟩ | ⟨hne, q4⟩
    · simp
    · exact hm.nodup q b1 q4
  · intro q q' b1 b2 hne q1 q2 b hb1 hb2
    rcases hbt q b1 q1 with ⟨rfl, rfl⟩ | ⟨hne1, q4⟩
    · simp at hb1
    · rcases hbt q' b2 q2 with ⟨rfl, rfl⟩ | ⟨hne2, q5⟩
      · simp at hb2
      · exact hm.disj q q' b1 b2 hne q4 q5 b hb1 hb2
  · intro q b1 q1 b hb1 hS
    rcases hbt q b1 q1 with ⟨rfl, rfl⟩ | ⟨hne1, q4⟩
    · simp at hb1
    · rcases hS with hS | hS
      · exact hm.apart q b1 q4 b hb1 hS
      · exact hm.disj q r b1 bs hne1 q4 hb b hb1 hS
  · intro q b1 q1 b hb1
    rcases hbt q b1 q1 with ⟨rfl, rfl⟩ | ⟨hne1, q4⟩
    · simp at hb1
    · exact hm.mine q b1 q4 b hb1
  · intro q y hlt q1
    rw [getElem?_set_ _ _ _ _ hrl] at q1
    split at q1
    · rename_i e1
      injection q1 with q1; injection q1 with q1 _
      subst e1
      exact hm.root r _ hlt (by rw [hT, q1])
    · exact hm.root q y hlt q1
  · intro q kq y q1
    rw [getElem?_set_ _ _ _ _ hrl] at q1
    split at q1
    · injection q1 with q1; injection q1 with q1 _
      rw [← q1]; exact hm.ver r k _ hT
    · exact hm.ver q kq y q1
  · show TmpOK _ _ _ _ _ _ (upd σ.env t _ q)
    unfold upd
    by_cases h : q = t
    · subst h
      rw [if_pos rfl]
      have h1 := he q hq
      rw [hv] at h1
      obtain ⟨hol, g0, nn, cap, hve2, hpe⟩ := h1.2.2 e es v sz hT hv2 hi
      rw [hve] at hve2
      injection hve2 with s1 s2 s3
      subst s1
      have hpe : a.tmps.getD q undef = .pointer (some ⟨g0, 0 * sz + 0, none⟩) := hpe
      rw [hpe]
      subst hes
      have hfl : ([row] : List (List AV)).flatten = row := by simp
      rw [hfl] at hul hcc
      refine (show Rep C.P _ w [] _ (.rop row) from Rep.rop (us := us) (fun hn => ?_) hul fun i u x hu hx => (hcc i u x hu hx).mono fun _ _ h => .inl h)
      obtain ⟨g, r1, r2, r3⟩ := hcell hn
      injection r1 with r1
      injection r1 with r1
      subst r1
      exact ⟨g0, 0 * sz + 0, rfl, .inr r2, fun j u hu => by rw [Nat.zero_mul, Nat.zero_add]; exact r3 j u hu⟩
    · rw [if_neg h]
      exact TmpOK.follows hf (he q hq)
/-- What comes behind x is walked once, however x ends; i says in which state. -/
theorem AW.join {ι : Type} {x y : Code} (l : ι → List (Nat × AV)) (T : ι → Sl) (H : ι → Prop) (h1 : AW C x (thenE (fun σ' => ∃ i, H i ∧ AllEq σ'.env (l i) ∧ σ'.T = T i ∧ σ'.n = σ.n) Q) σ) (h2 : ∀ i ρ, H i → AW C y Q ⟨updL ρ (l i), T i, σ.n⟩) : AW C (.seq x y) Q σ := by
  refine AW.seq (h1.mono fun e σ' h => ?_)
  cases e with
  | normal =>
    obtain ⟨i, g1, g2, g3, g4⟩ := h
    have := h2 i σ'.env g1
    rw [updL_self g2, ← g3, ← g4] at this
    exact this
  | _ => exact h
theorem Gh.trans {σ' σ'' : Sta} (h : Gh C σ σ') (h' : Gh C σ' σ'') : Gh C σ σ'' := fun a w hs => h' a w (h a w hs)
theorem Gh.refl : Gh C σ σ := fun _ _ h => h
/-- .. where what is known may first be said otherwise. -/
theorem AW.joinG {ι : Type} {x y : Code} (l : ι → List (Nat × AV)) (T : ι → Sl) (H : ι → Prop) (h1 : AW C x (thenE (fun σ' => ∃ σ'', Gh C σ' σ'' ∧ ∃ i, H i ∧ AllEq σ''.env (l i) ∧ σ''.T = T i ∧ σ''.n = σ.n) Q) σ) (h2 : ∀ i ρ, H i → AW C y Q ⟨updL ρ (l i), T i, σ.n⟩) : AW C (.seq x y) Q σ := by
  refine AW.seq (h1.mono fun e σ' h => ?_)
  cases e with
  | normal =>
    obtain ⟨σ'', gh, i, g1, g2, g3, g4⟩ := h
    have := h2 i σ''.env g1
    rw [updL_self g2, ← g3, ← g4] at this
    exact AW.gh gh this
  | _ => exact h
end
end Go.Proofs.Ytjgbbffcjbmjmaa
