import Derived.Test.YtngfknoddphhaaaAb6
namespace Go.Proofs.Ytngfknoddphhaaa
open Go.RowKit
set_option linter.unusedSimpArgs false
set_option linter.unusedVariables false

/-- What is stored of a datum: a reference is not. -/
def stc : AV → AV
  | .sl _ _ _ _ => .any
  | .ptr _ _ _ _ => .any
  | .mp _ _ => .any
  | x => x
theorem RefOK.stc {P : Program} {S : Nat → Prop} {w : World} {T : Sl} {vals : List Value} {u : Value} {x : AV} (h : RefOK P S w T vals u x) : Rep P S w [] u (stc x) := by
  cases x with
  | sl => exact .any h.2.1
  | ptr => exact .any h.2.1
  | mp => exact .any h.2.1
  | _ => exact h
/-- The cells of a datum. -/
def rowOf : AV → Option (List AV)
  | .agg cs => some (cs.map stc)
  | .tup _ => none
  | .any => none
  | x => some [stc x]
theorem TmpOK.row {P : Program} {S : Nat → Prop} {w : World} {T : Sl} {vals : List Value} {u : Value} {x : AV} {row : List AV} (h : TmpOK P S w T vals u x) (hr : rowOf x = some row) : RL (Rep P S w []) u.cells.toList row := by
  cases x with
  | agg cs =>
    obtain ⟨us, rfl, r⟩ := h.agg
    simp [rowOf] at hr
    subst hr
    refine ⟨by simp [Value.cells, ← r.1], fun i u x hu hx => ?_⟩
    rw [List.getElem?_map] at hx
    cases hc : cs[i]? with
    | none => rw [hc] at hx; cases hx
    | some c =>
      rw [hc] at hx
      simp at hx
      subst hx
      exact (r.2 i u c hu hc).stc
  | tup => cases hr
  | any => cases hr
  | _ =>
    simp only [rowOf, Option.some.injEq] at hr
    simp only [TmpOK, AggOK] at h
    subst hr
    have h1 := RefOK.one h
    have h2 : u.cells.toList = [u] := by cases u <;> first | rfl | cases h1
    rw [h2]
    exact RL.cons (RefOK.stc h) RL.nil
def splice {α : Type} (cs : List α) (off : Nat) (xs : List α) : List α := cs.take off ++ xs ++ cs.drop (off + xs.length)
theorem splice_len {α : Type} (cs : List α) (off : Nat) (xs : List α) (h : off + xs.length ≤ cs.length) : (splice cs off xs).length = cs.length := by
  unfold splice; simp; omega
theorem RL.spl {α β : Type} {R : α → β → Prop} {us vs : List α} {xs ys : List β} (h : RL R us xs) (h' : RL R vs ys) (off : Nat) : RL R (splice us off vs) (splice xs off ys) := by
  unfold splice
  have h1 := h.part 0 off
  simp only [List.drop_zero] at h1
  have h2 := h.part (off + vs.length) us.length
  rw [List.take_of_length_le (by simp)] at h2
  rw [List.take_of_length_le (by simp [h.1])] at h2
  rw [h'.1] at h2
  exact (h1.append h').append (by rw [h'.1]; exact h2)
theorem fold_set (off : Nat) : ∀ (l : List Value) (j : Nat) (cs : Array Value), off + j + l.length ≤ cs.size → ((l.zipIdx j).foldl (fun cs (c, j) => cs.setIfInBounds (off + j) c) cs).toList = splice cs.toList (off + j) l
  | [], j, cs, h => by simp [splice]
  | v :: l, j, cs, h => by
    simp only [List.length_cons] at h
    rw [List.zipIdx_cons, List.foldl_cons, fold_set off l (j + 1) _ (by simp; omega), Array.toList_setIfInBounds]
    have := list_seg_step cs.toList (off + j) v l (by simp; omega)
    unfold splice
    rw [← Nat.add_assoc, this]
    simp
theorem fill_run (place : Nat → Option (Nat × Nat)) : ∀ (parts : List (Nat × Value)) (cells : Array Value), (∀ p ∈ parts, ∃ off, place p.1 = some (off, p.2.cells.size) ∧ off + p.2.cells.size ≤ cells.size) →
    Instr.fill place cells parts = some (parts.foldl (fun cs p => splice cs ((place p.1).getD (0, 0)).1 p.2.cells.toList) cells.toList).toArray
  | [], cells, _ => by simp [Instr.fill]
  | (i, v) :: rest, cells, h => by
    obtain ⟨off, hp, hle⟩ := h (i, v) (by simp)
    simp only at hp hle
    have hf : (v.cells.zipIdx.foldl (fun cs (c, j) => cs.setIfInBounds (off + j) c) cells).toList = splice cells.toList off v.cells.toList := by
      have := fold_set off v.cells.toList 0 cells (by simp; omega)
      rw [Nat.add_zero] at this
      rw [← this]
      congr 1
      rw [← Array.foldl_toList]
      congr 1
      simp
    have hsz : (v.cells.zipIdx.foldl (fun cs (c, j) => cs.setIfInBounds (off + j) c) cells).size = cells.size := by
      rw [← Array.length_toList, hf, splice_len _ _ _ (by simp; omega)]; simp
    unfold Instr.fill
    simp only [hp]
    rw [if_neg (by simp; omega)]
    rw [fill_run place rest _ (fun p hp' => by
      obtain ⟨o, h1, h2⟩ := h p (by simp [hp'])
      exact ⟨o, h1, by rw [hsz]; exact h2⟩)]
    rw [List.foldl_cons, hf]
    simp [hp]

/-- A type of the table: its zero, its size. -/
def zeroIs (P : Program) (t : TypeId) (z : Value) (sz bytes : Nat) : Prop := (P.info? t).map (fun i => (i.zero, i.size, i.bytes)) = some (some z, sz, bytes) ∧ z.cells.size = sz ∧ z.cells.all (·.oneCell') = true
theorem zeroIs.size {P : Program} {t : TypeId} {z : Value} {sz b : Nat} (h : zeroIs P t z sz b) : sizeIs P t sz := by
  obtain ⟨h, -, -⟩ := h
  unfold sizeIs
  cases hi : P.info? t with
  | none => rw [hi] at h; cases h
  | some i => rw [hi] at h; simp at h; simp [h]
theorem zeroIs.run {P : Program} {t : TypeId} {z : Value} {sz b : Nat} (h : zeroIs P t z sz b) (w : World) : (zeroValue t).run P w = .ok z w := by
  obtain ⟨h, -, -⟩ := h
  cases hi : P.info? t with
  | none => rw [hi] at h; cases h
  | some i => rw [hi] at h; simp at h; simp [zeroValue, typeInfo, hi, h]
theorem zeroIs.rl {P : Program} {t : TypeId} {z : Value} {sz b : Nat} (h : zeroIs P t z sz b) {S : Nat → Prop} {w : World} : RL (Rep P S w []) z.cells.toList (z.cells.toList.map .v) := by
  refine ⟨by simp, fun i u x hu hx => ?_⟩
  rw [List.getElem?_map, hu] at hx
  simp at hx
  subst hx
  have := Array.all_eq_true_iff_forall_mem.1 h.2.2 u (Array.mem_toList_iff.1 (List.mem_of_getElem? hu))
  exact .v this

section
variable {C : Cx} {o : Oper} {ev : Operand → AV} {T : Sl}
def pushT (T : Sl) (x : AV) : Sl := ⟨T.slots ++ [(T.ep, x)], T.ep + 1⟩
theorem rep_new {P : Program} {S : Nat → Prop} {w : World} {e : TypeId} {sz : Nat} {es : List (List AV)} {us : List Value} (hi : sizeIs P e sz) (hs : ∀ x ∈ es, x.length = sz) (hm : es.length ≤ maxLen) (hr : RL (Rep P S w []) us es.flatten) :
    Rep P S (w.alloc (.cells us.toArray e)) [w.heap.size] (.slice (some ⟨w.heap.size, 0, none⟩) es.length es.length) (.own e es) := by
  have ho := World.ownsRow_lit (base := 0) (e := e) (size := sz) w us.toArray es.length (Nat.zero_le _) hm (by simp; rw [hr.1, flat_len hs])
  have hk : Kept (fun _ => True) w (w.alloc (.cells us.toArray e)) := (Kept.refl _ _).alloc _
  have := Rep.own (P := P) (S := S) (bss := List.replicate us.length []) hi hs (us := us) (by simpa using ho) hr.1 (by simp) fun i u x bs hu hx hb => by
    have : bs = [] := by
      rw [List.getElem?_replicate] at hb
      split at hb <;> simp_all
    subst this
    exact (hr.2 i u x hu hx).kept hk (fun _ _ _ => trivial) (by simp)
  have e1 : (List.replicate us.length ([] : List Nat)).flatten = [] := by simp
  rw [e1] at this
  exact this
theorem op_new_ptr {e : TypeId} {sz : Nat} {row : List AV} (hi : sizeIs C.P e sz) (hl : row.length = sz)
    (h : ∀ (a : Act) (w : World) (S : Nat → Prop) (vals : List Value) (bss : List (List Nat)), Mem C T S vals bss w → (∀ y ∈ o.op.operands, TmpOK C.P S w T vals (a.eval y) (ev y)) →
      ∃ us, (execOp a.eval o).run C.P w = .ok (.value (.pointer (some ⟨w.heap.size, 0, none⟩))) (w.alloc (.cells us.toArray e)) ∧ RL (Rep C.P S w []) us row) : OpJ C o ev T (.ptr T.slots.length T.ep 0 0) (pushT T (.own e [row])) := by
  intro a w S vals bss hm ho K hK Q
  obtain ⟨us, hrun, hr⟩ := h a w S vals bss hm ho
  have hrep := rep_new (es := [row]) hi (by simpa using hl) (by unfold maxLen; simp) (us := us) (by simpa using hr)
  obtain ⟨hm', hf⟩ := hm.push ((Kept.refl _ _).alloc (.cells us.toArray e)) hrep (by simp) (by simp)
  unfold Oper.wp
  rw [hrun]
  refine hK _ _ _ _ _ hm' hf ⟨by simp [pushT], rfl, fun e' es v sz' h1 h2 h3 => ?_⟩
  have h1 : (T.slots ++ [_])[T.slots.length]? = _ := h1
  rw [getElem?_snoc, if_neg (Nat.lt_irrefl _), if_pos rfl] at h1
  rw [getElem?_snoc, hm.nv, if_neg (Nat.lt_irrefl _), if_pos rfl] at h2
  injection h1 with h1; injection h1 with _ h1
  injection h1 with h1 h4
  injection h2 with h2
  subst h1; subst h2; subst h4
  exact ⟨by simp, _, _, _, rfl, by simp⟩
theorem op_new_sl {e : TypeId} {sz : Nat} {es : List (List AV)} (hi : sizeIs C.P e sz) (hs : ∀ x ∈ es, x.length = sz) (hl : es.length ≤ maxLen)
    (h : ∀ (a : Act) (w : World) (S : Nat → Prop) (vals : List Value) (bss : List (List Nat)), Mem C T S vals bss w → (∀ y ∈ o.op.operands, TmpOK C.P S w T vals (a.eval y) (ev y)) →
      ∃ us, (execOp a.eval o).run C.P w = .ok (.value (.slice (some ⟨w.heap.size, 0, none⟩) es.length es.length)) (w.alloc (.cells us.toArray e)) ∧ RL (Rep C.P S w []) us es.flatten) : OpJ C o ev T (.sl T.slots.length T.ep 0 es.length) (pushT T (.own e es)) := by
  intro a w S vals bss hm ho K hK Q
  obtain ⟨us, hrun, hr⟩ := h a w S vals bss hm ho
  have hrep := rep_new (es := es) hi hs hl (us := us) hr
  obtain ⟨hm', hf⟩ := hm.push ((Kept.refl _ _).alloc (.cells us.toArray e)) hrep (by simp) (by simp)
  unfold Oper.wp
  rw [hrun]
  refine hK _ _ _ _ _ hm' hf ⟨by simp [pushT], rfl, fun e' es' v sz' h1 h2 h3 => ?_⟩
  have h1 : (T.slots ++ [_])[T.slots.length]? = _ := h1
  rw [getElem?_snoc, if_neg (Nat.lt_irrefl _), if_pos rfl] at h1
  rw [getElem?_snoc, hm.nv, if_neg (Nat.lt_irrefl _), if_pos rfl] at h2
  injection h1 with h1; injection h1 with _ h1
  injection h1 with h1 h4
  injection h2 with h2
  subst h1; subst h2; subst h4
  exact ⟨by simp, _, _, _, rfl, by simp, Nat.le_refl _, hl, .inl ⟨rfl, rfl⟩⟩

theorem op_alloc {t : TypeId} {z : Value} {sz b : Nat} {row : List AV} (ho : o.op = .alloc t) (hz : zeroIs C.P t z sz b) (hrow : z.cells.toList.map .v = row) : OpJ C o ev T (.ptr T.slots.length T.ep 0 0) (pushT T (.own t [row])) := by
  refine op_new_ptr hz.size (by rw [← hrow]; simp [hz.2.1]) fun a w S vals bss hm h => ⟨z.cells.toList, ?_, by rw [← hrow]; exact hz.rl⟩
  simp [execOp, ho, Instr.alloc, hz.run, newVar, newRow]
theorem op_box {t : TypeId} {y : Operand} {x : AV} {sz : Nat} {row : List AV} (ho : o.op = .box t y) (hy : ev y = x) (hrow : rowOf x = some row) (hs : sizeIs C.P t sz) (hl : row.length = sz) : OpJ C o ev T (.ptr T.slots.length T.ep 0 0) (pushT T (.own t [row])) := by
  refine op_new_ptr hs hl fun a w S vals bss hm h => ?_
  have h1 := h y (by simp [ho, Op.operands])
  rw [hy] at h1
  exact ⟨_, by simp [execOp, ho, Instr.box, newVar, newRow], h1.row hrow⟩
end
end Go.Proofs.Ytngfknoddphhaaa
