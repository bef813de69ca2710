import Derived.Test.YtngfknoddphhaaaAb3
namespace Go.Proofs.Ytngfknoddphhaaa
open Go.RowKit
set_option linter.unusedSimpArgs false
set_option linter.unusedVariables false

/-- Is the type a struct's or an array's? -/
def aggB (P : Program) (t : TypeId) : Option Bool := match P.underlying t with | some (.struct _) => some true | some (.array ..) => some true | some _ => some false | none => none
theorem run_isAgg {P : Program} {t : TypeId} {b : Bool} (h : aggB P t = some b) (w : World) : (isAgg t).run P w = .ok b w := by
  unfold aggB at h
  unfold isAgg
  cases hu : P.underlying t with
  | none => rw [hu] at h; cases h
  | some d =>
    rw [hu] at h
    cases d <;> simp at h <;> subst h <;> simp [run_underlying hu]
theorem run_sizeOf {P : Program} {t : TypeId} {n : Nat} (h : sizeIs P t n) (w : World) : (sizeOf t).run P w = .ok n w := by
  unfold sizeIs at h
  cases hi : P.info? t with
  | none => rw [hi] at h; cases h
  | some i => rw [hi] at h; simp at h; simp [sizeOf, typeInfo, hi, h]
/-- Field f of struct type t: its offset, its type. -/
def fieldIs (P : Program) (t : TypeId) (f off : Nat) (ft : TypeId) : Prop := ∃ fs fd, P.underlying t = some (.struct fs) ∧ fs[f]? = some fd ∧ fd.offset = off ∧ fd.type = ft
theorem add_off (g o n : Nat) : (⟨g, o, none⟩ : Addr).add n = ⟨g, o + n, none⟩ := by
  unfold Addr.add
  by_cases h : n = 0
  · subst h; simp
  · simp [h]
theorem run_fieldAt {P : Program} {t : TypeId} {f off n : Nat} {ft : TypeId} (hf : fieldIs P t f off ft) (hs : sizeIs P ft n) (hn : n ≠ 0) (A : Addr) (w : World) : (Instr.fieldAt t (.pointer (some A)) f).run P w = .ok (.pointer (some (A.add off))) w := by
  obtain ⟨fs, fd, h1, h2, rfl, rfl⟩ := hf
  simp [Instr.fieldAt, run_underlying h1, h2, Instr.sureAddr, fieldPlace, run_sizeOf hs, hn]
theorem run_loadVar {P : Program} {t : TypeId} {n : Nat} (ha : aggB P t = some true) (hs : sizeIs P t n) (A : Addr) (us : List Value) (hl : us.length = n) (w : World) (hc : ∀ j u, us[j]? = some u → w.cell? (A.add j) = some u) : (loadVar t A).run P w = .ok (.agg us.toArray) w := by
  have := run_loadCells_list (P := P) w A us hc
  simp [loadVar, run_isAgg ha, run_sizeOf hs, ← hl, this]
theorem run_loadOne {P : Program} {t : TypeId} (ha : aggB P t = some false) (A : Addr) (u : Value) (w : World) (hc : w.cell? A = some u) : (loadVar t A).run P w = .ok u w := by
  simp [loadVar, run_isAgg ha, hc]

/-- The cells of a list of elements, all of one size. -/
theorem flat_at {sz : Nat} : ∀ {es : List (List AV)}, (∀ e ∈ es, e.length = sz) → ∀ {i : Nat} {row : List AV}, es[i]? = some row → ∀ {j : Nat} {x : AV}, row[j]? = some x → es.flatten[i * sz + j]? = some x
  | [], _, i, row, h, _, _, _ => by simp at h
  | e :: es, hs, i, row, h, j, x, hx => by
    have he := hs e (by simp)
    cases i with
    | zero =>
      simp at h
      subst h
      have : j < e.length := (List.getElem?_eq_some_iff.1 hx).1
      rw [Nat.zero_mul, Nat.zero_add, List.flatten_cons, List.getElem?_append_left this]
      exact hx
    | succ i =>
      have := flat_at (es := es) (fun e h => hs e (by simp [h])) (i := i) (by simpa using h) hx
      rw [List.flatten_cons, List.getElem?_append_right (by rw [he, Nat.add_mul]; omega), he]
      have e2 : (i + 1) * sz + j - sz = i * sz + j := by rw [Nat.add_mul]; omega
      rw [e2]; exact this
theorem flat_len {sz : Nat} : ∀ {es : List (List AV)}, (∀ e ∈ es, e.length = sz) → es.flatten.length = es.length * sz
  | [], _ => by simp
  | e :: es, hs => by
    rw [List.flatten_cons, List.length_append, flat_len (es := es) (fun e h => hs e (by simp [h])), hs e (by simp), List.length_cons, Nat.add_mul]; omega
theorem flat_cut {sz : Nat} : ∀ {es : List (List AV)}, (∀ e ∈ es, e.length = sz) → ∀ k n, ((es.drop k).take n).flatten = (es.flatten.drop (k * sz)).take (n * sz) := by
  intro es hs k n
  have hd : ∀ (es : List (List AV)) k, (∀ e ∈ es, e.length = sz) → (es.drop k).flatten = es.flatten.drop (k * sz) := by
    intro es
    induction es with
    | nil => intro k _; simp
    | cons e es ih =>
      intro k hs
      cases k with
      | zero => simp
      | succ k =>
        have he := hs e (by simp)
        have h0 : List.drop ((k + 1) * sz) e = [] := List.drop_eq_nil_of_le (by rw [he, Nat.add_mul]; omega)
        rw [List.drop_succ_cons, ih k (fun e h => hs e (by simp [h])), List.flatten_cons, List.drop_append, h0, List.nil_append, he]
        congr 1
        rw [Nat.add_mul]; omega
  have ht : ∀ (es : List (List AV)) n, (∀ e ∈ es, e.length = sz) → (es.take n).flatten = es.flatten.take (n * sz) := by
    intro es
    induction es with
    | nil => intro k _; simp
    | cons e es ih =>
      intro k hs
      cases k with
      | zero => simp
      | succ k =>
        have he := hs e (by simp)
        have h0 : List.take ((k + 1) * sz) e = e := List.take_of_length_le (by rw [he, Nat.add_mul]; omega)
        rw [List.take_succ_cons, List.flatten_cons, ih k (fun e h => hs e (by simp [h])), List.flatten_cons, List.take_append, he, h0]
        congr 2
        rw [Nat.add_mul]; omega
  rw [ht _ n (fun e h => hs e (List.mem_of_mem_drop h)), hd _ k hs]

/-- What a load of a cell gives. -/
def ldc : AV → AV
  | .own _ es => .sln es.length
  | .om _ _ => .any
  | x => x
theorem Rep.ldc {P : Program} {S : Nat → Prop} {w : World} {bs : List Nat} {u : Value} {x : AV} (h : Rep P S w bs u x) : Rep P S w [] u (ldc x) := by
  cases h with
  | any h => exact .any h
  | v h => exact .v h
  | sln h1 h2 => exact .sln h1 h2
  | ro h1 h2 h3 h4 h5 h6 => exact .ro h1 h2 h3 h4 h5 h6
  | rof h2 h3 h4 h5 h6 => exact .rof h2 h3 h4 h5 h6
  | rop h1 h2 h3 => exact .rop h1 h2 h3
  | own hi hs ho hl hb hc =>
    rename_i e es us sz bss
    rcases ho.2 with ⟨rfl, h0⟩ | ⟨g, cap, cur, rfl, -, -, h1, h2, -⟩
    · show Rep P S w [] _ (.sln es.length)
      rw [h0]; exact .sln (Nat.le_refl _) (by unfold maxLen; omega)
    · exact .sln h1 h2
theorem Rep.noref {P : Program} {S : Nat → Prop} {w : World} {bs : List Nat} {u : Value} {x : AV} (h : Rep P S w bs u x) (r k i j : Nat) : x ≠ .sl r k i j ∧ x ≠ .ptr r k i j ∧ x ≠ .mp r k := by
  cases h <;> simp
theorem Rep.ref {P : Program} {S : Nat → Prop} {w : World} {T : Sl} {vals : List Value} {u : Value} {x : AV} (h : Rep P S w [] u x) : RefOK P S w T vals u x := by
  cases x with
  | sl r k i j => exact absurd rfl (h.noref r k i j).1
  | ptr r k i j => exact absurd rfl (h.noref r k i j).2.1
  | mp r k => exact absurd rfl (h.noref r k 0 0).2.2
  | _ => exact h

section
variable {C : Cx} {o : Oper} {ev : Operand → AV} {T : Sl}

theorem op_nil_ptr {y : Operand} {cs : List AV} (ho : o.op = .nilCheck y) (hy : ev y = .rop cs) : OpP C o ev T (.rop cs) := by
  intro a w S vals bss hm h
  have h1 := h y (by simp [ho, Op.operands])
  rw [hy] at h1
  obtain ⟨-, A, us, e, _⟩ := (show Rep C.P S w [] _ (.rop cs) from h1).rop_inv
  exact ⟨a.eval y, fun w => by simp [execOp, ho, e], h1⟩
/-- Field of a struct that is known. -/
theorem op_field {t ft : TypeId} {y : Operand} {f off n : Nat} {cs : List AV} (ho : o.op = .field t y f) (hy : ev y = .agg cs) (hf : fieldIs C.P t f off ft) (hs : sizeIs C.P ft n) (ha : aggB C.P ft = some true) (hn : off + n ≤ cs.length) {xs : List AV} (hx : (cs.drop off).take n = xs) : OpP C o ev T (.agg xs) := by
  intro a w S vals bss hm h
  have h1 := h y (by simp [ho, Op.operands])
  rw [hy] at h1
  obtain ⟨us, e, r⟩ := h1.agg
  obtain ⟨fs, fd, h1, h2, rfl, rfl⟩ := hf
  have hr := r.part fd.offset n
  rw [hx] at hr
  refine ⟨.agg (us.extract fd.offset (fd.offset + n)), fun w => ?_, ⟨_, rfl, ?_⟩⟩
  · simp [execOp, ho, e, Instr.field, run_underlying h1, h2, asAgg, part, run_isAgg ha, run_sizeOf hs]
  · have : (us.extract fd.offset (fd.offset + n)).toList = (us.toList.drop fd.offset).take n := by simp
    rw [this]; exact hr
theorem op_field1 {t ft : TypeId} {y : Operand} {f off : Nat} {cs : List AV} {x : AV} (ho : o.op = .field t y f) (hy : ev y = .agg cs) (hf : fieldIs C.P t f off ft) (ha : aggB C.P ft = some false) (hx : cs[off]? = some x) : OpP C o ev T x := by
  intro a w S vals bss hm h
  have h1 := h y (by simp [ho, Op.operands])
  rw [hy] at h1
  obtain ⟨us, e, r⟩ := h1.agg
  obtain ⟨fs, fd, h1, h2, rfl, rfl⟩ := hf
  obtain ⟨u, hu, hr⟩ := r.at_ hx
  have hu' : us[fd.offset]? = some u := by simpa using hu
  refine ⟨u, fun w => ?_, hr.tmp⟩
  simp [execOp, ho, e, Instr.field, run_underlying h1, h2, asAgg, part, run_isAgg ha, hu']
/-- The address of a field. -/
theorem op_fa_rop {t ft : TypeId} {y : Operand} {f off n : Nat} {cs : List AV} (ho : o.op = .fieldAddr t y f) (hy : ev y = .rop cs) (hf : fieldIs C.P t f off ft) (hs : sizeIs C.P ft n) (hn : n ≠ 0) (hl : off < cs.length) {xs : List AV} (hx : cs.drop off = xs) : OpP C o ev T (.rop xs) := by
  intro a w S vals bss hm h
  have h1 := h y (by simp [ho, Op.operands])
  rw [hy] at h1
  obtain ⟨-, A, us, e, hr, hlen, hc⟩ := (show Rep C.P S w [] _ (.rop cs) from h1).rop_inv
  obtain ⟨g, oo, hA, hS, hcell⟩ := hr (by omega)
  injection hA with hA
  subst hA
  refine ⟨.pointer (some ⟨g, oo + off, none⟩), fun w => by simp [execOp, ho, e, run_fieldAt hf hs hn, add_off], ?_⟩
  subst hx
  refine Rep.rop (us := us.drop off) (fun _ => ⟨g, oo + off, rfl, hS, fun j u hu => ?_⟩) (by simp [hlen]) fun i u x hu hx => ?_
  · rw [List.getElem?_drop] at hu
    rw [Nat.add_assoc]; exact hcell _ u hu
  · rw [List.getElem?_drop] at hu hx
    exact hc _ u x hu hx
theorem Mem.slot {S : Nat → Prop} {vals : List Value} {bss : List (List Nat)} {w : World} (hm : Mem C T S vals bss w) {r k : Nat} {x : AV} (h : T.slots[r]? = some (k, x)) : ∃ v bs, vals[r]? = some v ∧ bss[r]? = some bs ∧ Rep C.P S w bs v x := by
  have hr : r < T.slots.length := (List.getElem?_eq_some_iff.1 h).1
  have h1 := List.getElem?_eq_getElem (l := vals) (i := r) (by rw [hm.nv]; exact hr)
  have h2 := List.getElem?_eq_getElem (l := bss) (i := r) (by rw [hm.nb]; exact hr)
  exact ⟨_, _, h1, h2, hm.rep _ _ _ _ _ h h1 h2⟩
theorem op_nil_slot {y : Operand} {r k i j : Nat} {e : TypeId} {es : List (List AV)} (ho : o.op = .nilCheck y) (hy : ev y = .ptr r k i j) (hT : T.slots[r]? = some (k, .own e es)) : OpP C o ev T (.ptr r k i j) := by
  intro a w S vals bss hm h
  have h1 := h y (by simp [ho, Op.operands])
  rw [hy] at h1
  obtain ⟨v, bs, hv, hb, hrep⟩ := hm.slot hT
  obtain ⟨us, sz, bss', -, hi, -, -, -, -, -⟩ := hrep.own_inv
  obtain ⟨-, g, n, cap, -, e⟩ := h1.2.2 e es v sz hT hv hi
  exact ⟨a.eval y, fun w => by simp [execOp, ho, e], h1⟩
theorem op_fa_ptr {t ft : TypeId} {y : Operand} {f off n r k i j : Nat} {e : TypeId} {es : List (List AV)} (ho : o.op = .fieldAddr t y f) (hy : ev y = .ptr r k i j) (hT : T.slots[r]? = some (k, .own e es)) (hf : fieldIs C.P t f off ft) (hs : sizeIs C.P ft n) (hn : n ≠ 0) {j' : Nat} (hj : j + off = j') : OpP C o ev T (.ptr r k i j') := by
  intro a w S vals bss hm h
  have h1 := h y (by simp [ho, Op.operands])
  rw [hy] at h1
  obtain ⟨v, bs, hv, hb, hrep⟩ := hm.slot hT
  obtain ⟨us, sz, bss', -, hi, -, -, -, -, -⟩ := hrep.own_inv
  obtain ⟨hil, g, m, cap, hve, e'⟩ := h1.2.2 e es v sz hT hv hi
  refine ⟨.pointer (some ⟨g, i * sz + j + off, none⟩), fun w => by simp [execOp, ho, e', run_fieldAt hf hs hn, add_off], ⟨h1.1, rfl, ?_⟩⟩
  intro e2 es2 v2 sz2 hT2 hv2 hi2
  rw [hT] at hT2
  injection hT2 with hT2
  injection hT2 with _ hT2
  injection hT2 with h3 h4
  subst h3; subst h4
  rw [hv] at hv2
  injection hv2 with hv2
  subst hv2
  have := hi.inj hi2
  subst this
  refine ⟨hil, g, m, cap, hve, ?_⟩
  rw [← hj, Nat.add_assoc]
end
end Go.Proofs.Ytngfknoddphhaaa
