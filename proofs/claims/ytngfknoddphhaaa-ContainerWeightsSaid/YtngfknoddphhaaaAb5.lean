import Derived.Test.YtngfknoddphhaaaAb4
namespace Go.Proofs.Ytngfknoddphhaaa
open Go.RowKit
set_option linter.unusedSimpArgs false
set_option linter.unusedVariables false

theorem Rep.ro_get {P : Program} {S : Nat → Prop} {w : World} {bs : List Nat} {u : Value} {es : List (List AV)} (h : Rep P S w bs u (.ro es)) {m : Nat} {row : List AV} (hm : es[m]? = some row) (hn : 0 < row.length) :
    ∃ g o c, u = .slice (some ⟨g, o, none⟩) es.length c ∧ es.length ≤ c ∧ c ≤ maxLen ∧ Rep P S w [] (.pointer (some ⟨g, o + m * row.length, none⟩)) (.rop row) := by
  obtain ⟨-, A, c, sz, us, rfl, h1, h2, h3, h4, h5, h6⟩ := h.ro_inv
  have hrow : row.length = sz := h3 row (List.mem_of_getElem? hm)
  have hml : m < es.length := (List.getElem?_eq_some_iff.1 hm).1
  have hfl := flat_len h3
  have hle : m * sz + sz ≤ es.length * sz := by rw [← Nat.succ_mul]; exact Nat.mul_le_mul_right _ hml
  obtain ⟨g, o, rfl, hS, hc⟩ := h4 (by omega)
  refine ⟨g, o, c, rfl, h1, h2, ?_⟩
  rw [hrow]
  refine Rep.rop (us := (us.drop (m * sz)).take sz) (fun _ => ⟨g, o + m * sz, rfl, hS, fun j u hu => ?_⟩) (by rw [List.length_take, List.length_drop]; omega) fun i u x hu hx => ?_
  · rw [List.getElem?_take] at hu
    split at hu
    · rw [List.getElem?_drop] at hu
      rw [Nat.add_assoc]; exact hc _ u hu
    · cases hu
  · rw [List.getElem?_take] at hu
    split at hu
    · rw [List.getElem?_drop] at hu
      exact h6 _ u x hu (flat_at h3 hm hx)
    · cases hu
theorem elem_eq {P : Program} {t e : TypeId} (h : P.underlying t = some (.slice e)) : P.elem t = e := by simp [Program.elem, h]

section
variable {C : Cx} {o : Oper} {ev : Operand → AV} {T : Sl}
theorem op_ia_ro {t e : TypeId} {y i : Operand} {es : List (List AV)} {kk : IntKind} {n : Int} (m : Nat) {row : List AV} (ho : o.op = .indexAddr t y i) (hy : ev y = .ro es ∨ ev y = .rof es) (hi : ev i = .v (.int kk n))
    (ht : C.P.underlying t = some (.slice e)) (hn : n = (m : Int)) (hm : es[m]? = some row) (hs : sizeIs C.P e row.length) (h0 : 0 < row.length) : OpP C o ev T (.rop row) := by
  intro a w S vals bss hme h
  have h1 := h y (by simp [ho, Op.operands])
  have h2 := h i (by simp [ho, Op.operands])
  rw [hi] at h2
  have h3 : Rep C.P S w [] (a.eval y) (.ro es) := by
    rcases hy with hy | hy
    · rw [hy] at h1; exact h1
    · rw [hy] at h1; exact Rep.ro_of_rof h1
  obtain ⟨g, oo, c, e1, h4, h5, h6⟩ := h3.ro_get hm h0
  have hml : m < es.length := (List.getElem?_eq_some_iff.1 hm).1
  refine ⟨_, fun w => ?_, h6⟩
  have hee := elem_eq ht
  subst hn
  have hlt : (m : Int) < (es.length : Int) := by omega
  simp [execOp, ho, e1, h2.v, run_indexAt_slice w t _ _ _ _ _ (by rw [hee]; exact ht), hlt, hee, run_sizeOf hs, add_off]
theorem op_ia_sl {t e : TypeId} {y i : Operand} {es : List (List AV)} {kk : IntKind} {n : Int} {r k off len : Nat} (m : Nat) (sz : Nat) (ho : o.op = .indexAddr t y i) (hy : ev y = .sl r k off len) (hi : ev i = .v (.int kk n))
    (hT : T.slots[r]? = some (k, .own e es)) (ht : C.P.underlying t = some (.slice e)) (hn : n = (m : Int)) (hm : m < len) (hs : sizeIs C.P e sz) {j : Nat} (hj : off + m = j) : OpP C o ev T (.ptr r k j 0) := by
  intro a w S vals bss hme h
  have h1 := h y (by simp [ho, Op.operands])
  have h2 := h i (by simp [ho, Op.operands])
  rw [hi] at h2
  rw [hy] at h1
  obtain ⟨v, bs, hv, hb, hrep⟩ := hme.slot hT
  obtain ⟨hol, A, nn, cap, hve, h3, h4, h5, h6⟩ := h1.2.2 e es v sz hT hv hs
  have hee := elem_eq ht
  have key : ∃ g cc, A = some ⟨g, 0, none⟩ ∧ a.eval y = .slice (some ⟨g, off * sz, none⟩) len cc := by
    obtain ⟨us, sz', bss', -, -, -, hown, -⟩ := hrep.own_inv
    rcases h6 with ⟨h7, h8⟩ | ⟨A', -, h7, h8⟩
    · rcases hown.2 with ⟨hnil, h0⟩ | ⟨g, cap', cur, hcap, -⟩
      · rw [hve] at hnil; injection hnil with e1 e2 e3; omega
      · rw [hve] at hcap
        injection hcap with e1 e2 e3
        subst e1; subst h7
        exact ⟨g, cap, rfl, by rw [h8]; simp⟩
    · obtain ⟨g, hA, hA'⟩ := h8 (by omega)
      exact ⟨g, _, hA, by rw [h7, hA']⟩
  obtain ⟨g, cc, hA, he⟩ := key
  subst hn
  have hlt : (m : Int) < (len : Int) := by omega
  refine ⟨.pointer (some ⟨g, off * sz + m * sz, none⟩), fun w => ?_, ⟨h1.1, rfl, ?_⟩⟩
  · simp [execOp, ho, he, h2.v, run_indexAt_slice w t _ _ _ _ _ (by rw [hee]; exact ht), hlt, hee, run_sizeOf hs, add_off]
  · intro e2 es2 v2 sz2 hT2 hv2 hi2
    rw [hT] at hT2
    injection hT2 with hT2
    injection hT2 with _ hT2
    injection hT2 with h3 h4
    subst h3; subst h4
    rw [hv] at hv2
    injection hv2 with hv2
    subst hv2
    have := hs.inj hi2
    subst this
    refine ⟨by omega, g, nn, cap, by rw [hve, hA], ?_⟩
    rw [← hj, Nat.add_mul, Nat.add_zero]
/-- The cells at a pointer into a slot. -/
theorem ptr_cells {S : Nat → Prop} {vals : List Value} {bss : List (List Nat)} {w : World} (hme : Mem C T S vals bss w) {u : Value} {r k i j : Nat} {e : TypeId} {es : List (List AV)} (hT : T.slots[r]? = some (k, .own e es)) (h : TmpOK C.P S w T vals u (.ptr r k i j)) {row : List AV} (hrow : es[i]? = some row) :
    ∃ g oo, u = .pointer (some ⟨g, oo, none⟩) ∧ ∀ q x, row[j + q]? = some x → ∃ c bs, w.cell? ⟨g, oo + q, none⟩ = some c ∧ Rep C.P S w bs c x := by
  obtain ⟨v, bs, hv, hb, hrep⟩ := hme.slot hT
  obtain ⟨us, sz, bss', -, hi, hsz, hown, hul, hbl, hc⟩ := hrep.own_inv
  obtain ⟨hil, g, nn, cap, hve, he⟩ := h.2.2 e es v sz hT hv hi
  refine ⟨g, _, he, fun q x hx => ?_⟩
  have hf := flat_at hsz hrow hx
  have hlt : i * sz + (j + q) < us.length := by rw [hul]; exact (List.getElem?_eq_some_iff.1 hf).1
  have h1 := List.getElem?_eq_getElem hlt
  have h2 := List.getElem?_eq_getElem (l := bss') (by rw [hbl]; exact hlt)
  refine ⟨_, _, ?_, hc _ _ _ _ h1 hf h2⟩
  have := hown.cells (g := g) (by rw [hve]; rfl) _ _ h1
  rw [add_off, Nat.zero_add] at this
  rw [Nat.add_assoc]
  exact this
theorem op_load_rop {t : TypeId} {y : Operand} {n : Nat} {cs xs : List AV} (ho : o.op = .load t y) (hy : ev y = .rop cs) (ha : aggB C.P t = some true) (hs : sizeIs C.P t n) (hn : n ≤ cs.length) (h0 : 0 < n) (hx : cs.take n = xs) : OpR C o ev T (.agg xs) := by
  intro a w S vals bss hm h
  have h1 := h y (by simp [ho, Op.operands])
  rw [hy] at h1
  obtain ⟨-, A, us, e, hr, hlen, hc⟩ := (show Rep C.P S w [] _ (.rop cs) from h1).rop_inv
  obtain ⟨g, oo, hA, hS, hcell⟩ := hr (by omega)
  injection hA with hA
  subst hA
  refine ⟨.agg (us.take n).toArray, fun w' hk => ?_, ⟨_, rfl, ?_⟩⟩
  · have hl := run_loadVar (P := C.P) ha hs ⟨g, oo, none⟩ (us.take n) (by rw [List.length_take]; omega) w' fun j u hu => by
      rw [List.getElem?_take] at hu
      split at hu
      · rw [add_off]; exact hk.cell (hcell j u hu) trivial
      · cases hu
    simp [execOp, ho, e, Instr.loadAt, Instr.sureAddr, hl]
  · subst hx
    refine ⟨by simp [hlen], fun i u x hu hx => ?_⟩
    simp only at hu
    rw [List.getElem?_take] at hu hx
    split at hu
    · rw [if_pos (by assumption)] at hx
      exact Rep.ref (hc i u x hu hx)
    · cases hu
theorem op_load_rop1 {t : TypeId} {y : Operand} {x : AV} {cs : List AV} (ho : o.op = .load t y) (hy : ev y = .rop (x :: cs)) (ha : aggB C.P t = some false) : OpR C o ev T x := by
  intro a w S vals bss hm h
  have h1 := h y (by simp [ho, Op.operands])
  rw [hy] at h1
  obtain ⟨-, A, us, e, hr, hlen, hc⟩ := (show Rep C.P S w [] _ (.rop (x :: cs)) from h1).rop_inv
  obtain ⟨g, oo, hA, hS, hcell⟩ := hr (by rw [hlen]; simp)
  injection hA with hA
  subst hA
  have hu := List.getElem?_eq_getElem (l := us) (i := 0) (by rw [hlen]; simp)
  refine ⟨_, fun w' hk => ?_, (Rep.ref (hc 0 _ x hu rfl)).tmp⟩
  have hcc := hk.cell (hcell 0 _ hu) trivial
  have hl := run_loadOne (P := C.P) ha ⟨g, oo, none⟩ _ w' hcc
  simp [execOp, ho, e, Instr.loadAt, Instr.sureAddr, hl]
theorem op_load_ptr {t : TypeId} {y : Operand} {n r k i j : Nat} {e : TypeId} {es : List (List AV)} {row xs : List AV} (ho : o.op = .load t y) (hy : ev y = .ptr r k i j) (hT : T.slots[r]? = some (k, .own e es)) (hrow : es[i]? = some row) (ha : aggB C.P t = some true) (hs : sizeIs C.P t n) (hn : j + n ≤ row.length) (hx : ((row.drop j).take n).map ldc = xs) : OpR C o ev T (.agg xs) := by
  intro a w S vals bss hm h
  have h1 := h y (by simp [ho, Op.operands])
  rw [hy] at h1
  obtain ⟨g, oo, he, hc⟩ := ptr_cells hm hT h1 hrow
  have hget : ∀ q, q < n → ∃ x c, row[j + q]? = some x ∧ w.cell? ⟨g, oo + q, none⟩ = some c ∧ Rep C.P S w [] c (ldc x) := fun q hq => by
    have hx := List.getElem?_eq_getElem (l := row) (i := j + q) (by omega)
    obtain ⟨c, bs, h3, h4⟩ := hc q _ hx
    exact ⟨_, c, hx, h3, h4.ldc⟩
  obtain ⟨us, hul, hus⟩ : ∃ us : List Value, us.length = n ∧ ∀ q u, us[q]? = some u → w.cell? ⟨g, oo + q, none⟩ = some u := by
    refine ⟨(List.range n).map fun q => (w.cell? ⟨g, oo + q, none⟩).getD undef, by simp, fun q u hu => ?_⟩
    have hq : q < n := by have := (List.getElem?_eq_some_iff.1 hu).1; simpa using this
    obtain ⟨x, c, _, h3, _⟩ := hget q hq
    simp [hq, h3] at hu
    rw [h3, hu]
  refine ⟨.agg us.toArray, fun w' hk => ?_, ⟨_, rfl, ?_⟩⟩
  · have hl := run_loadVar (P := C.P) ha hs ⟨g, oo, none⟩ us hul w' fun q u hu => by
      rw [add_off]; exact hk.cell (hus q u hu) trivial
    simp [execOp, ho, he, Instr.loadAt, Instr.sureAddr, hl]
  · subst hx
    refine ⟨by simp [hul]; omega, fun q u x hu hx => ?_⟩
    simp only at hu
    rw [List.getElem?_map, List.getElem?_take] at hx
    have hq : q < n := by have := (List.getElem?_eq_some_iff.1 hu).1; omega
    rw [if_pos hq, List.getElem?_drop] at hx
    obtain ⟨x', c, h2, h3, h4⟩ := hget q hq
    rw [h2] at hx
    simp at hx
    subst hx
    have := hus q u hu
    rw [h3] at this
    injection this with this
    subst this
    exact Rep.ref h4
theorem op_load_ptr1 {t : TypeId} {y : Operand} {r k i j : Nat} {e : TypeId} {es : List (List AV)} {row : List AV} {x x' : AV} (ho : o.op = .load t y) (hy : ev y = .ptr r k i j) (hT : T.slots[r]? = some (k, .own e es)) (hrow : es[i]? = some row) (ha : aggB C.P t = some false) (hx : row[j]? = some x) (hx' : ldc x = x') : OpR C o ev T x' := by
  intro a w S vals bss hm h
  have h1 := h y (by simp [ho, Op.operands])
  rw [hy] at h1
  obtain ⟨g, oo, he, hc⟩ := ptr_cells hm hT h1 hrow
  obtain ⟨c, bs, h3, h4⟩ := hc 0 x hx
  subst hx'
  refine ⟨c, fun w' hk => ?_, (Rep.ref h4.ldc).tmp⟩
  have hl := run_loadOne (P := C.P) ha ⟨g, oo, none⟩ _ w' (hk.cell h3 trivial)
  simp [execOp, ho, he, Instr.loadAt, Instr.sureAddr, hl]
/-- len -/
def lenA : AV → Option Nat
  | .sln n => some n
  | .ro es => some es.length
  | .rof es => some es.length
  | .v (.slice _ n _) => some n
  | .sl _ _ _ n => some n
  | .v (.string s) => some s.size
  | _ => none
theorem op_len_ro {t : TypeId} {y : Operand} {n : Nat} {x : AV} {e : TypeId} (ho : o.op = .call { callee := .builtin .len, args := #[y], argTypes := #[t] }) (hy : ev y = x) (ht : C.P.underlying t = some (.slice e))
    (hx : x = .sln n ∨ (∃ es, x = .ro es ∧ es.length = n) ∨ (∃ es, x = .rof es ∧ es.length = n) ∨ (n = 0 ∧ x = .v (.slice none 0 0))) : OpP C o ev T (.v (.int .i64 n)) := by
  intro a w S vals bss hm h
  have h1 := h y (by simp [ho, Op.operands, Call.operands])
  rw [hy] at h1
  obtain ⟨A, c, e1, -, -⟩ := lenOf_slice h1 hx
  refine ⟨_, fun w => ?_, TmpOK.v_ rfl⟩
  have hee := elem_eq ht
  simp [execOp, ho, resolve, invoke, builtin, e1, run_len_slice w t _ _ _ _ (by rw [hee]; exact ht), goInt]
theorem op_len_sl {t : TypeId} {y : Operand} {r k off len : Nat} {e e' : TypeId} {es : List (List AV)} (ho : o.op = .call { callee := .builtin .len, args := #[y], argTypes := #[t] }) (hy : ev y = .sl r k off len) (hT : T.slots[r]? = some (k, .own e es)) (ht : C.P.underlying t = some (.slice e')) : OpP C o ev T (.v (.int .i64 len)) := by
  intro a w S vals bss hm h
  have h1 := h y (by simp [ho, Op.operands, Call.operands])
  rw [hy] at h1
  obtain ⟨v, bs, hv, hb, hrep⟩ := hm.slot hT
  obtain ⟨us, sz', bss', -, hs, -⟩ := hrep.own_inv
  obtain ⟨hol, A, nn, cap, hve, h3, h4, h5, h6⟩ := h1.2.2 e es v _ hT hv hs
  have : ∃ A c, a.eval y = .slice A len c := by
    rcases h6 with ⟨_, h⟩ | ⟨A', _, h, _⟩
    · exact ⟨_, _, h⟩
    · exact ⟨_, _, h⟩
  obtain ⟨A, c, e1⟩ := this
  refine ⟨_, fun w => ?_, TmpOK.v_ rfl⟩
  have hee := elem_eq ht
  simp [execOp, ho, resolve, invoke, builtin, e1, run_len_slice w t _ _ _ _ (by rw [hee]; exact ht), goInt]
theorem op_len_str {t : TypeId} {y : Operand} {s : ByteArray} (ho : o.op = .call { callee := .builtin .len, args := #[y], argTypes := #[t] }) (hy : ev y = .v (.string s)) (ht : C.P.underlying t = some .string) : OpP C o ev T (.v (.int .i64 s.size)) := by
  intro a w S vals bss hm h
  have h1 := h y (by simp [ho, Op.operands, Call.operands])
  rw [hy] at h1
  exact ⟨_, fun w => by simp [execOp, ho, resolve, invoke, builtin, h1.v, run_len_string w t _ _ ht, goInt], TmpOK.v_ rfl⟩
/-- Byte of a string. -/
theorem op_ix_str {t : TypeId} {y i : Operand} {s : ByteArray} {kk : IntKind} {n : Int} (m : Nat) {b : UInt8} (ho : o.op = .index t y i) (hy : ev y = .v (.string s)) (hi : ev i = .v (.int kk n)) (ht : C.P.underlying t = some .string) (hn : n = (m : Int)) (hm : s.data.toList[m]? = some b) : OpP C o ev T (.v (.int .u8 b.toNat)) := by
  intro a w S vals bss hme h
  have h1 := h y (by simp [ho, Op.operands])
  have h2 := h i (by simp [ho, Op.operands])
  rw [hy] at h1
  rw [hi] at h2
  subst hn
  have hb : s[m]? = some b := by
    obtain ⟨h3, h4⟩ := List.getElem?_eq_some_iff.1 hm
    have h5 : m < s.size := by simpa using h3
    rw [getElem?_pos s m h5]
    congr 1
  exact ⟨_, fun w => by simp [execOp, ho, h1.v, h2.v, Instr.index, asIntOf, run_underlying ht, hb], TmpOK.v_ rfl⟩
/-- A conversion between integers. -/
theorem op_conv {s d : TypeId} {y : Operand} {k k' : IntKind} {n m : Int} {sd : TypeDesc} (ho : o.op = .convert s d y) (hy : ev y = .v (.int k n)) (hs : C.P.underlying s = some sd) (hd : C.P.underlying d = some (.int k')) (hm : k'.wrap n = m) : OpP C o ev T (.v (.int k' m)) := by
  intro a w S vals bss hme h
  have h1 := h y (by simp [ho, Op.operands])
  rw [hy] at h1
  exact ⟨_, fun w => by simp [execOp, ho, h1.v, convert, run_underlying hs, run_underlying hd, Conv.intToInt, hm], TmpOK.v_ rfl⟩
theorem op_min {t1 t2 : TypeId} {y z : Operand} {k k' : IntKind} {n m r : Int} (ho : o.op = .call { callee := .builtin .min, args := #[y, z], argTypes := #[t1, t2] }) (hy : ev y = .v (.int k n)) (hz : ev z = .v (.int k' m)) (hr : (if m < n then m else n) = r) : OpP C o ev T (.v (.int k r)) := by
  intro a w S vals bss hme h
  have h1 := h y (by simp [ho, Op.operands, Call.operands])
  have h2 := h z (by simp [ho, Op.operands, Call.operands])
  rw [hy] at h1
  rw [hz] at h2
  exact ⟨_, fun w => by simp [execOp, ho, resolve, invoke, builtin, Builtin.min_, Builtin.min2, h1.v, h2.v, hr], TmpOK.v_ rfl⟩
theorem op_max {t1 t2 : TypeId} {y z : Operand} {k k' : IntKind} {n m r : Int} (ho : o.op = .call { callee := .builtin .max, args := #[y, z], argTypes := #[t1, t2] }) (hy : ev y = .v (.int k n)) (hz : ev z = .v (.int k' m)) (hr : (if m > n then m else n) = r) : OpP C o ev T (.v (.int k r)) := by
  intro a w S vals bss hme h
  have h1 := h y (by simp [ho, Op.operands, Call.operands])
  have h2 := h z (by simp [ho, Op.operands, Call.operands])
  rw [hy] at h1
  rw [hz] at h2
  exact ⟨_, fun w => by simp [execOp, ho, resolve, invoke, builtin, Builtin.max_, Builtin.max2, h1.v, h2.v, hr], TmpOK.v_ rfl⟩
end
end Go.Proofs.Ytngfknoddphhaaa
