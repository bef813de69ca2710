import Derived.Test.YtjgbbffcjbmjmaaAbO
namespace Go.Proofs.Ytjgbbffcjbmjmaa
open Go.RowKit
set_option linter.unusedSimpArgs false
set_option linter.unusedVariables false
set_option linter.unusedSectionVars false

/-! ### Named rows whose addresses are known -/
abbrev slv (g n c : Nat) : Value := .slice (some ⟨g, 0, none⟩) n c
abbrev ptv (g j : Nat) : Value := .pointer (some ⟨g, j, none⟩)
section
variable {C : Cx} {T : Sl} {S : Nat → Prop} {vals : List Value} {bss : List (List Nat)} {w : World}
theorem Rep.nm_inv {P : Program} {bs : List Nat} {v u : Value} {e : TypeId} {es : List (List AV)} (h : Rep P S w bs v (.nm u e es)) : v = u ∧ Rep P S w bs u (.own e es) := by
  cases h with
  | nm h => exact ⟨rfl, h⟩
theorem set_same {α : Type} {l : List α} {r : Nat} {x : α} (h : l[r]? = some x) : l.set r x = l := by
  apply List.ext_getElem?
  intro j
  rw [List.getElem?_set]
  split
  · rename_i e; subst e; rw [if_pos (List.getElem?_eq_some_iff.1 h).1, h]
  · rfl
/-- A slot gets its name. -/
theorem Mem.name {r k : Nat} {u : Value} {e : TypeId} {es : List (List AV)} (hm : Mem C T S vals bss w) (hT : T.slots[r]? = some (k, .own e es)) (hv : vals[r]? = some u) :
    Mem C ⟨T.slots.set r (k, .nm u e es), T.ep⟩ S vals bss w ∧ Follows C.P S w T vals S w ⟨T.slots.set r (k, .nm u e es), T.ep⟩ vals := by
  obtain ⟨v, bs, hv', hb, hrep⟩ := hm.slot hT
  obtain rfl : u = v := Option.some.inj (hv.symm.trans hv')
  have := hm.set (k' := k) (ep' := T.ep) hT hv hb (Kept.refl _ w) (.nm hrep) (hm.nodup r bs hb) (fun b h => .inl h) (.inl ⟨rfl, rfl, rfl, (fun e es h => by cases h), (fun b ks h => by cases h)⟩)
  rwa [set_same hv, set_same hb] at this
theorem own_shape {P : Program} {bs : List Nat} {u : Value} {e : TypeId} {es : List (List AV)} (h : Rep P S w bs u (.own e es)) (h0 : 0 < es.length) : ∃ g c, u = slv g es.length c ∧ es.length ≤ c ∧ c ≤ maxLen := by
  obtain ⟨us, sz, bss, -, -, -, hown, -⟩ := h.own_inv
  rcases hown.2 with ⟨-, h0'⟩ | ⟨g, cap, cur, rfl, -, -, h1, h2, -⟩
  · omega
  · exact ⟨g, cap, rfl, h1, h2⟩
/-- The whole slice's value is the slot's. -/
theorem sl_whole {r k len : Nat} {u v : Value} {e : TypeId} {es : List (List AV)} {bs : List Nat} (hT : T.slots[r]? = some (k, .own e es)) (hv : vals[r]? = some v) (hrep : Rep C.P S w bs v (.own e es)) (hl : len = es.length) (hu : TmpOK C.P S w T vals u (.sl r k 0 len)) : u = v := by
  subst hl
  obtain ⟨us, sz, bss1, -, hi, hsz, hown, -⟩ := hrep.own_inv
  obtain ⟨-, hsub⟩ := hu.2.2 e es v sz hT hv hi
  obtain ⟨A, n, cap, hve, h1, h2, h3, h4⟩ := hsub
  rcases h4 with ⟨-, h4⟩ | ⟨A', h4, -⟩
  · rcases hown.2 with ⟨hnil, h0'⟩ | ⟨g, cap', cur, hcap, -⟩
    · rw [hnil] at hve
      injection hve with e1 e2 e3
      rw [h4, hnil, ← e1, ← e3, h0']
    · rw [hcap] at hve
      injection hve with e1 e2 e3
      rw [h4, hcap, ← e1, ← e3]
  · omega
theorem ptr_first {r k : Nat} {u v : Value} {e : TypeId} {es : List (List AV)} {bs : List Nat} (hT : T.slots[r]? = some (k, .own e es)) (hv : vals[r]? = some v) (hrep : Rep C.P S w bs v (.own e es)) (hu : TmpOK C.P S w T vals u (.ptr r k 0 0)) : ∃ g c, v = slv g es.length c ∧ u = ptv g 0 := by
  obtain ⟨us, sz, bss1, -, hi, -, -, -⟩ := hrep.own_inv
  obtain ⟨h0, g, n, cap, hve, hue⟩ := hu.2.2 e es v sz hT hv hi
  obtain ⟨g', c', hs, -, -⟩ := own_shape hrep (by omega)
  rw [hs] at hve
  injection hve with e1 e2 e3
  injection e1 with e1
  injection e1 with e1
  subst e1
  exact ⟨g', c', hs, by rw [hue]; simp⟩
end
section
variable {C : Cx} {o : Oper} {ev : Operand → AV} {T : Sl}
theorem op_ia_v {t e : TypeId} {y i : Operand} {kk : IntKind} {n : Int} {g len c : Nat} (m sz : Nat) (ho : o.op = .indexAddr t y i) (hy : ev y = .v (slv g len c)) (hi : ev i = .v (.int kk n)) (ht : C.P.underlying t = some (.slice e)) (hn : n = (m : Int)) (hm : m < len) (hs : sizeIs C.P e sz) {j : Nat} (hj : m * sz = j) : OpP C o ev T (.v (ptv g j)) := by
  intro a w S vals bss hme h
  have h1 := h y (by simp [ho, Op.operands])
  have h2 := h i (by simp [ho, Op.operands])
  rw [hi] at h2
  rw [hy] at h1
  have hee := elem_eq ht
  subst hn; subst hj
  have hlt : (m : Int) < (len : Int) := by omega
  refine ⟨.pointer (some ⟨g, m * sz, none⟩), fun w => ?_, TmpOK.v_ rfl⟩
  simp [execOp, ho, h1.v, h2.v, slv, run_indexAt_slice w t _ _ _ _ _ (by rw [hee]; exact ht), hlt, hee, run_sizeOf hs, add_off]
theorem op_len_v {t e : TypeId} {y : Operand} {A : Option Addr} {n c : Nat} (ho : o.op = .call { callee := .builtin .len, args := #[y], argTypes := #[t] }) (hy : ev y = .v (.slice A n c)) (ht : C.P.underlying t = some (.slice e)) : OpP C o ev T (.v (.int .i64 n)) := by
  intro a w S vals bss hm h
  have h1 := h y (by simp [ho, Op.operands, Call.operands])
  rw [hy] at h1
  refine ⟨_, fun w => ?_, TmpOK.v_ rfl⟩
  have hee := elem_eq ht
  simp [execOp, ho, resolve, invoke, builtin, h1.v, run_len_slice w t _ _ _ _ (by rw [hee]; exact ht), goInt]
theorem op_load_v {t : TypeId} {y : Operand} {g n c j : Nat} {e : TypeId} {es : List (List AV)} {row : List AV} {x x' : AV} {sz : Nat} (r k i q : Nat) (ho : o.op = .load t y) (hy : ev y = .v (ptv g j)) (hT : T.slots[r]? = some (k, .nm (slv g n c) e es)) (hrow : es[i]? = some row) (ha : aggB C.P t = some false) (hs : sizeIs C.P e sz) (hj : j = i * sz + q) (hx : row[q]? = some x) (hx' : ldc x = x') : OpR C o ev T x' := by
  intro a w S vals bss hm h
  have h1 := h y (by simp [ho, Op.operands])
  rw [hy] at h1
  obtain ⟨v, bs, hv, hb, hrep0⟩ := hm.slot hT
  obtain ⟨rfl, hrep⟩ := hrep0.nm_inv
  obtain ⟨us, sz', bss', -, hi, hsz, hown, hul, hbl, hc⟩ := hrep.own_inv
  obtain rfl := sizeIs.inj hs hi
  have hf := flat_at hsz hrow hx
  have hlt : i * sz + q < us.length := by rw [hul]; exact (List.getElem?_eq_some_iff.1 hf).1
  have h3 := List.getElem?_eq_getElem hlt
  have h4 := List.getElem?_eq_getElem (l := bss') (by rw [hbl]; exact hlt)
  have hrp := hc _ _ _ _ h3 hf h4
  have hcell := hown.cells (g := g) rfl _ _ h3
  rw [add_off, Nat.zero_add] at hcell
  subst hx'; subst hj
  refine ⟨_, fun w' hk => ?_, (Rep.ref hrp.ldc).tmp⟩
  have hl := run_loadOne (P := C.P) ha ⟨g, i * sz + q, none⟩ _ w' (hk.cell hcell trivial)
  simp [execOp, ho, h1.v, ptv, Instr.loadAt, Instr.sureAddr, hl]
theorem op_store_v {t : TypeId} {y z : Operand} {x : AV} {g n c j sz : Nat} {e : TypeId} {es : List (List AV)} {row xs : List AV} {m : Nat} (r k i q : Nat) (ho : o.op = .store t y z) (hy : ev y = .v (ptv g j)) (hz : ev z = x) (hT : T.slots[r]? = some (k, .nm (slv g n c) e es)) (hrow : es[i]? = some row) (hx : rowOf x = some xs) (hs : sizeIs C.P t m) (hn : xs.length = m) (hse : sizeIs C.P e sz) (hj : j = i * sz + q) (hjl : q + xs.length ≤ row.length)
    {es' : List (List AV)} (he : es.set i (splice row q xs) = es') {T' : Sl} (hT' : (⟨T.slots.set r (k, .nm (slv g n c) e es'), T.ep⟩ : Sl) = T') : OpJ C o ev T .any T' := by
  subst hT'
  intro a w S vals bss hm h K hK Q
  have h1 := h y (by simp [ho, Op.operands])
  have h2 := h z (by simp [ho, Op.operands])
  rw [hy] at h1
  rw [hz] at h2
  obtain ⟨v, bs, hv, hb, hrep0⟩ := hm.slot hT
  obtain ⟨rfl, hrep⟩ := hrep0.nm_inv
  have hrl := h2.row hx
  obtain ⟨g', cap, cur, sz', bs', hve, hg, hsz, hfit, hgb, hrep', hnd', hsub⟩ := hrep.own_set (hm.nodup r bs hb) (hm.apart r bs hb) hrow (vs := (a.eval z).cells.toList) (xs := xs) (bvs := List.replicate xs.length []) (by simp only [List.length_replicate]; exact hrl.1.symm) hrl.1 (fun q u x b h1 h2 h3 => by
    have : b = [] := by rw [List.getElem?_replicate] at h3; split at h3 <;> simp_all
    subst this
    exact hrl.2 q u x h1 h2) (by simp) (by simp) hjl
  obtain rfl := sizeIs.inj hse hsz
  injection hve with e1 e2 e3
  injection e1 with e1
  injection e1 with e1
  subst e1
  have hrun := run_store_at (P := C.P) hs g (i * sz + q) e cur (a.eval z) w hg (by rw [← hn, ← hrl.1]; simp) (by simpa using hfit) fun u hu => by
    obtain ⟨q, hq, rfl⟩ := List.getElem_of_mem hu
    exact (hrl.2 q _ (xs[q]'(by rw [← hrl.1]; exact hq)) (List.getElem?_eq_getElem _) (List.getElem?_eq_getElem _)).one
  have hk : Kept (fun q => q ∉ bs) w (w.setRow g (cur.toList.take (i * sz + q) ++ (a.eval z).cells.toList ++ cur.toList.drop (i * sz + q + (a.eval z).cells.toList.length)).toArray) := ⟨rfl, rfl, rfl, by simp, fun k _ hk' => setRow_other w g k _ (fun e => hk' (e ▸ hgb))⟩
  rw [he] at hrep'
  obtain ⟨hm', hf⟩ := hm.set (k' := k) (ep' := T.ep) hT hv hb hk (.nm hrep') hnd' (fun b hb' => .inl ((hsub b hb').resolve_right (by simp))) (.inl ⟨rfl, rfl, rfl, (fun e es h => by cases h), (fun b ks h => by cases h)⟩)
  unfold Oper.wp execOp
  simp only [ho, h1.v, ptv, hj, hrun, Sem.run_bind, Result.andThen_ok, Sem.run_pure, Oper.upon_skip]
  exact hK undef _ _ _ _ hm' hf trivial
/-- A closure over plain values. -/
theorem op_makeFuncV {f : FuncId} {caps : Array Operand} {us : List Value} (ho : o.op = .makeFunc (.func f) #[] caps) (hc : caps.toList.map ev = us.map .v) : OpP C o ev T (.v (.func (.func f) #[] us.toArray)) := by
  intro a w S vals bss hm h
  refine ⟨.func (.func f) #[] us.toArray, fun w => ?_, TmpOK.v_ rfl⟩
  have e1 : (caps.map a.eval) = us.toArray := by
    apply Array.toList_inj.1
    rw [Array.toList_map]
    apply List.ext_getElem?
    intro i
    have hi : (caps.toList.map ev)[i]? = (us.map AV.v)[i]? := by rw [hc]
    rw [List.getElem?_map, List.getElem?_map] at hi
    rw [List.getElem?_map]
    cases hq : caps.toList[i]? with
    | none =>
      rw [hq] at hi
      cases hu : us[i]? with
      | none => simp [hu]
      | some u => rw [hu] at hi; cases hi
    | some y =>
      rw [hq] at hi
      cases hu : us[i]? with
      | none => rw [hu] at hi; cases hi
      | some u =>
        rw [hu] at hi
        injection hi with hi
        have hy : y ∈ caps := by simpa using List.mem_of_getElem? hq
        have h1 := h y (by simp [ho, Op.operands]; exact hy)
        rw [hi] at h1
        simp [h1.v, hu]
  simp [execOp, ho, Instr.makeFunc, e1]
/-! ### Operations whose outcome is only bounded -/
def OpX (C : Cx) (o : Oper) (ev : Operand → AV) (T : Sl) (p : AV → Sl → Prop) : Prop :=
  ∀ (a : Act) (w : World) (S : Nat → Prop) (vals : List Value) (bss : List (List Nat)), Mem C T S vals bss w → (∀ y ∈ o.op.operands, TmpOK C.P S w T vals (a.eval y) (ev y)) →
    ∀ (K : Act → World → Prop), (∀ x T', p x T' → ∀ v w' S' vals' bss', Mem C T' S' vals' bss' w' → Follows C.P S w T vals S' w' T' vals' → TmpOK C.P S' w' T' vals' v x → K (a.put o.dst v) w') → ∀ Q, o.wp C.P a w K Q
theorem OpJ.x {x : AV} {T' : Sl} (h : OpJ C o ev T x T') : OpX C o ev T fun y T'' => y = x ∧ T'' = T' := fun a w S vals bss hm ho K hK Q =>
  h a w S vals bss hm ho K (fun v w' S' vals' bss' h1 h2 h3 => hK _ _ ⟨rfl, rfl⟩ v w' S' vals' bss' h1 h2 h3) Q
theorem OpX.congr {ev' : Operand → AV} {p : AV → Sl → Prop} (h : OpX C o ev T p) (he : ∀ y ∈ o.op.operands, ev' y = ev y) : OpX C o ev' T p :=
  fun a w S vals bss hm ho => h a w S vals bss hm fun y hy => by rw [← he y hy]; exact ho y hy
/-- A new box gets its name. -/
theorem OpJ.nmP {r k : Nat} {e : TypeId} {es : List (List AV)} {T1 : Sl} (h : OpJ C o ev T (.ptr r k 0 0) T1) (hT : T1.slots[r]? = some (k, .own e es)) :
    OpX C o ev T fun x T' => ∃ g c, x = .v (ptv g 0) ∧ T' = ⟨T1.slots.set r (k, .nm (slv g es.length c) e es), T1.ep⟩ := fun a w S vals bss hm ho K hK Q => by
  refine h a w S vals bss hm ho K (fun v w' S' vals' bss' h1 h2 h3 => ?_) Q
  obtain ⟨u, bs, hv, hb, hrep⟩ := h1.slot hT
  obtain ⟨g, c, rfl, rfl⟩ := ptr_first hT hv hrep h3
  obtain ⟨hm2, hf2⟩ := h1.name hT hv
  exact hK _ _ ⟨g, c, rfl, rfl⟩ _ _ _ _ _ hm2 (fun u x h => hf2 u x (h2 u x h)) (TmpOK.v_ rfl)
/-- A new slice gets its name. -/
theorem OpJ.nmS {r k n : Nat} {e : TypeId} {es : List (List AV)} {T1 : Sl} (h : OpJ C o ev T (.sl r k 0 n) T1) (hT : T1.slots[r]? = some (k, .own e es)) (hn : n = es.length) :
    OpX C o ev T fun x T' => ∃ u, (0 < n → ∃ g c, u = slv g n c) ∧ x = .v u ∧ T' = ⟨T1.slots.set r (k, .nm u e es), T1.ep⟩ := fun a w S vals bss hm ho K hK Q => by
  refine h a w S vals bss hm ho K (fun v w' S' vals' bss' h1 h2 h3 => ?_) Q
  obtain ⟨u, bs, hv, hb, hrep⟩ := h1.slot hT
  obtain rfl := sl_whole hT hv hrep hn h3
  obtain ⟨hm2, hf2⟩ := h1.name hT hv
  exact hK _ _ ⟨v, fun h0 => by subst hn; obtain ⟨g, c, h, -, -⟩ := own_shape hrep h0; exact ⟨g, c, h⟩, rfl, rfl⟩ _ _ _ _ _ hm2 (fun u x h => hf2 u x (h2 u x h)) (TmpOK.v_ hrep.one)
theorem OpJ.nmPN {e : TypeId} {es : List (List AV)} (h : OpJ C o ev T (.ptr T.slots.length T.ep 0 0) (pushT T (.own e es))) : OpX C o ev T fun x T' => ∃ g c, x = .v (ptv g 0) ∧ T' = pushT T (.nm (slv g es.length c) e es) := fun a w S vals bss hm ho K hK Q => by
  refine h.nmP (e := e) (es := es) (by simp [pushT]) a w S vals bss hm ho K (fun x T' hp => ?_) Q
  obtain ⟨g, c, rfl, rfl⟩ := hp
  exact hK _ _ ⟨g, c, rfl, by simp [pushT]⟩
/-- All slots are lent to a closure over plain values. -/
def nmB : AV → AV → Prop
  | .nm u e _, x => ∃ es, x = .nm u e es
  | _, _ => False
theorem op_callAll {f : FuncId} {p : Operand} {args : Array Operand} {ts : Array TypeId} {us : List Value} {ins outs : List AV} {xs : List Value} {y : Value} {T' : Sl} (ho : o.op = .call { callee := .value p, args := args, argTypes := ts }) (hp : ev p = .v (.func (.func f) #[] us.toArray)) (hf : Enters C.P f) (hsp : Fn C.P f ins ((xs ++ us).map .v) [.v y] outs)
    (hv : args.toList.map ev = xs.map .v) (hx : y.oneCell' = true) (h1 : T.slots.map (·.2) = ins) (h2 : T'.slots.map (·.2) = outs) (h3 : T'.slots.map (·.1) = T.slots.map (·.1)) (h4 : T'.ep = T.ep) (hnm : RL nmB ins outs) (hus : us.all (·.oneCell') = true) (hxs : xs.all (·.oneCell') = true) : OpJ C o ev T (.v y) T' := by
  intro a w S vals bss hm h K hK Q
  have hl1 : T.slots.length = ins.length := by rw [← h1]; simp
  have hl2 : T'.slots.length = outs.length := by rw [← h2]; simp
  have hl3 : T'.slots.length = T.slots.length := by have := congrArg List.length h3; simpa using this
  have gi : ∀ (r k : Nat) (x : AV), T.slots[r]? = some (k, x) → ins[r]? = some x := fun r k x h => by rw [← h1, List.getElem?_map, h]; rfl
  have gi' : ∀ (r : Nat) (x : AV), ins[r]? = some x → ∃ k, T.slots[r]? = some (k, x) := fun r x h => by
    rw [← h1, List.getElem?_map] at h
    cases hq : T.slots[r]? with
    | none => rw [hq] at h; cases h
    | some q => rw [hq] at h; injection h with h; exact ⟨q.1, by rw [← h]⟩
  have go : ∀ (r k : Nat) (x : AV), T'.slots[r]? = some (k, x) → outs[r]? = some x ∧ ∃ x0, T.slots[r]? = some (k, x0) := fun r k x h => by
    refine ⟨by rw [← h2, List.getElem?_map, h]; rfl, ?_⟩
    have := congrArg (·[r]?) h3
    simp only [List.getElem?_map, h] at this
    cases hq : T.slots[r]? with
    | none => rw [hq] at this; cases this
    | some q => rw [hq] at this; injection this with this; exact ⟨q.2, by rw [show k = q.1 from this]⟩
  have hargs : args.toList.map a.eval = xs := by
    apply List.ext_getElem?
    intro i
    have hi : (args.toList.map ev)[i]? = (xs.map AV.v)[i]? := by rw [hv]
    rw [List.getElem?_map, List.getElem?_map] at hi
    rw [List.getElem?_map]
    cases hq : args.toList[i]? with
    | none =>
      rw [hq] at hi
      cases hu : xs[i]? with
      | none => rfl
      | some u => rw [hu] at hi; cases hi
    | some z =>
      rw [hq] at hi
      cases hu : xs[i]? with
      | none => rw [hu] at hi; cases hi
      | some u =>
        rw [hu] at hi
        injection hi with hi
        have hz : z ∈ args := by simpa using List.mem_of_getElem? hq
        have h5 := h z (by simp [ho, Op.operands, Call.operands]; exact .inr hz)
        rw [hi] at h5
        simp [h5.v]
  have hpv := h p (by simp [ho, Op.operands, Call.operands])
  rw [hp] at hpv
  have hone : ∀ u ∈ xs ++ us, u.oneCell' = true := fun u hu => by
    rcases List.mem_append.1 hu with h | h
    · exact List.all_eq_true.1 hxs u h
    · exact List.all_eq_true.1 hus u h
  have hcame : Came C.P ins ((xs ++ us).map .v) w S vals bss (xs ++ us) := by
    refine ⟨hm.lt, by rw [hm.nv, hl1], by rw [hm.nb, hl1], fun r x v bs q1 q2 q3 => ?_, ⟨hm.nodup, hm.disj⟩, fun b ⟨r, bs, q1, q2⟩ => hm.apart r bs q1 b q2, by simp, fun i u x q1 q2 => ?_⟩
    · obtain ⟨k, hk⟩ := gi' r x q1
      exact hm.rep r k x v bs hk q2 q3
    · rw [List.getElem?_map, q1] at q2
      injection q2 with q2
      subst q2
      exact Rep.v (hone u (List.mem_of_getElem? q1))
  have hc := hsp w S vals bss _ hcame
  have hrun : (execOp a.eval o).run C.P w = .ok (.enter f (xs ++ us).toArray) w := by
    have e1 : (args.map a.eval ++ us.toArray) = (xs ++ us).toArray := by apply Array.toList_inj.1; simp [hargs]
    simp only [execOp, ho, resolve, hpv.v, Deferred.ofValue, Sem.run_bind, Sem.run_pure, Result.andThen_ok, invoke]
    rw [← e1]
    simpa using hf _ w
  unfold Oper.wp
  rw [hrun, Oper.upon_enter]
  refine hc.mono ?_
  rintro e w' ⟨rs, ys', outs', bsr, bss', rfl, went, rfl, rfl⟩
  simp only
  have hs0 : ∀ q, InL (bsr ++ bss') q → ¬ S q := fun q hq hS => by
    rcases went.mine q hq with h | ⟨r, bs, q1, q2⟩
    · have := hm.lt q hS; omega
    · exact hm.apart r bs q1 q q2 hS
  have hin : ∀ r bs, bss'[r]? = some bs → (bsr ++ bss')[bsr.length + r]? = some bs := fun r bs h => by rw [List.getElem?_append_right (by omega), Nat.add_sub_cancel_left]; exact h
  have hk : Kept (fun q => ¬ InL bss q) w w' := went.kept
  have hsz := hm.kept.size
  have hm' : Mem C T' (After S w w' bss (bsr ++ bss')) vals bss' w' := by
    refine ⟨hm.kept.then hk fun q hq hq' hqb => ?_, fun q h => .inl (hm.s0 q h), fun q h => ?_, fun q h => ?_, by rw [hl3]; exact hm.nv, by rw [went.nb, hl3]; exact hm.nv, fun r k x v bs q1 q2 q3 => ?_, fun r bs q1 => went.own.nodup _ bs (hin r bs q1), fun r r' bs bs' hne q1 q2 => went.own.disj _ _ bs bs' (by omega) (hin r bs q1) (hin r' bs' q2), fun r bs q1 b q2 q3 => ?_, fun r bs q1 b q2 => ?_, fun r x hlt q1 => ?_, fun r k x q1 => ?_, by rw [h4]; exact hm.pos⟩
    · obtain ⟨r, bs, q1, q2⟩ : InL bss q := hqb
      rcases hm.mine r bs q1 q q2 with h | h
      · exact hq' h
      · omega
    · rcases h with h | ⟨h | ⟨r, bs, q1, q2⟩, _⟩
      · exact hm.sub q h
      · exact .inr (.inr (by omega))
      · exact .inr (hm.mine r bs q1 q q2)
    · rcases h with h | ⟨_, h, _⟩
      · exact Nat.lt_of_lt_of_le (hm.lt q h) hk.size
      · exact h
    · exact went.rep r x v bs (go r k x q1).1 q2 q3
    · rcases q3 with q3 | ⟨_, _, q3⟩
      · exact hs0 b ⟨_, bs, hin r bs q1, q2⟩ q3
      · exact q3 ⟨_, bs, hin r bs q1, q2⟩
    · rcases went.mine b ⟨_, bs, hin r bs q1, q2⟩ with h | ⟨r', bs', q3, q4⟩
      · exact .inr (by omega)
      · exact hm.mine r' bs' q3 b q4
    · obtain ⟨_, x0, h0⟩ := go r 0 x q1
      exact hm.root r x0 hlt h0
    · rw [h4]
      obtain ⟨_, x0, h0⟩ := go r k x q1
      exact hm.ver r k x0 h0
  have hkS : ∀ q, q < w.heap.size → S q → ¬ InL bss q := fun q _ hS ⟨r, bs, q1, q2⟩ => hm.apart r bs q1 q q2 hS
  have hnot : ∀ (r k : Nat) (x : AV), T'.slots[r]? = some (k, x) → ∃ u e es, x = .nm u e es := fun r k x q1 => by
    obtain ⟨q2, x0, q3⟩ := go r k x q1
    have := hnm.2 r x0 x (gi r k x0 q3) q2
    cases x0 with
    | nm u e es => obtain ⟨es', rfl⟩ := this; exact ⟨u, e, es', rfl⟩
    | _ => exact absurd this (by simp [nmB])
  have hfl : Follows C.P S w T vals (After S w w' bss (bsr ++ bss')) w' T' vals := fun u y h => by
    cases y with
    | sl r k off len => exact ⟨by rw [h4]; exact h.1, h.2.1, fun e es v sz q1 => by obtain ⟨_, _, _, hh⟩ := hnot _ _ _ q1; cases hh⟩
    | ptr r k i j => exact ⟨by rw [h4]; exact h.1, h.2.1, fun e es v sz q1 => by obtain ⟨_, _, _, hh⟩ := hnot _ _ _ q1; cases hh⟩
    | mp r k => exact ⟨by rw [h4]; exact h.1, h.2.1, fun b ks v q1 => by obtain ⟨_, _, _, hh⟩ := hnot _ _ _ q1; cases hh⟩
    | nm => exact h
    | byt => exact h
    | om => exact h
    | _ => exact RefOK.kept (T := T') (vals := vals) h hk hkS fun _ h => .inl h
  match rs, went.nu with
  | [u], _ =>
    refine hK _ _ _ _ _ hm' hfl ?_
    have hr := went.res 0 u (.v y) (bsr[0]'(by rw [went.nr]; simp)) rfl rfl (List.getElem?_eq_getElem _)
    have hu : u = y := by
      rcases hr with h | ⟨_, h⟩
      · exact h.v_inv.1
      · exact (show Rep C.P _ w' [] u (.v y) from h).v_inv.1
    rw [retV, hu]
    exact TmpOK.v_ hx
end
section
variable {C : Cx} {Q : Exit → Sta → Prop} {σ : Sta}
theorem awX {ops : Array Oper} {l : List Oper} {o : Oper} {env : Nat → AV} {T : Sl} {n : Nat} {p : AV → Sl → Prop} (hj : OpX C o (evA env) T p) (h : ∀ x T', p x T' → AWL C ops Q l ⟨putE env o.dst x, T', n⟩) (hg : o.guard = none := by rfl) (ho : opsOk o n = true := by rfl) : AWL C ops Q (o :: l) ⟨env, T, n⟩ := by
  intro a w ⟨hd, hn, S, vals, bss, hm, he⟩
  refine wpList_plain hg fun K hK => ?_
  exact hj a w S vals bss hm (St.ops (σ := ⟨env, T, n⟩) hn he ho) K (fun x T' hp v w' S' vals' bss' hm' hf hx => hK _ _ (h x T' hp _ _ (St.put (σ := ⟨env, T, n⟩) hd hn he hm' hf hx))) _
theorem awYes {ops : Array Oper} {l : List Oper} {o o' : Oper} {env : Nat → AV} {T T' : Sl} {n : Nat} {x : AV} (g d : Nat) {b : Bool} (hj : OpJ C o (evA env) T x T') (h : AWL C ops Q l ⟨putE env o.dst x, T', n⟩) (hv : env d = .v (.bool b)) (hg : o.guard = some (g, b)) (ho' : ops[g]? = some o') (hd : o'.dst = some d) (hdn : Nat.ble (d + 1) n = true) (ho : opsOk o n = true := by rfl) : AWL C ops Q (o :: l) ⟨env, T, n⟩ := by
  intro a w hs
  have hdn' : d < n := Nat.le_of_ble_eq_true hdn
  have hb := hs.bool (c := .tmp d) (t := b) (by simpa [noneBig] using hdn') rfl hv
  obtain ⟨hdf, hn, S, vals, bss, hm, he⟩ := hs
  have hw : Region.wanted o (yielded ops a.tmps) = true := by
    have hlt : d < a.tmps.size := by rw [hn]; exact hdn'
    simp [Act.eval, hlt] at hb
    simp [Region.wanted, hg, yielded, ho', hd, hlt, hb]
  unfold wpList
  rw [if_pos hw]
  exact .inl (hj a w S vals bss hm (St.ops (σ := ⟨env, T, n⟩) hn he ho) _ (fun v w' S' vals' bss' hm' hf hx => h _ _ (St.put (σ := ⟨env, T, n⟩) hdf hn he hm' hf hx)) _)
theorem awNo {ops : Array Oper} {l : List Oper} {o o' : Oper} {env : Nat → AV} {T : Sl} {n : Nat} (g d : Nat) {b : Bool} (h : AWL C ops Q l ⟨putE env o.dst .any, T, n⟩) (hv : env d = .v (.bool b)) (hg : o.guard = some (g, !b)) (ho' : ops[g]? = some o') (hd : o'.dst = some d) (hdn : Nat.ble (d + 1) n = true) : AWL C ops Q (o :: l) ⟨env, T, n⟩ := by
  intro a w hs
  have hdn' : d < n := Nat.le_of_ble_eq_true hdn
  have hb := hs.bool (c := .tmp d) (t := b) (by simpa [noneBig] using hdn') rfl hv
  obtain ⟨hdf, hn, S, vals, bss, hm, he⟩ := hs
  have hw : ¬ Region.wanted o (yielded ops a.tmps) = true := by
    have hlt : d < a.tmps.size := by rw [hn]; exact hdn'
    simp [Act.eval, hlt] at hb
    simp [Region.wanted, hg, yielded, ho', hd, hlt, hb]
  unfold wpList
  rw [if_neg hw]
  exact h _ _ (St.put (σ := ⟨env, T, n⟩) hdf hn he hm Follows.refl TmpOK.any_)
theorem aqNo {ops : Array Oper} {K : Sta → Prop} {l : List Oper} {o o' : Oper} {env : Nat → AV} {T : Sl} {n : Nat} (g d : Nat) {b : Bool} (h : AQ C ops K l ⟨putE env o.dst .any, T, n⟩) (hv : env d = .v (.bool b)) (hg : o.guard = some (g, !b)) (ho' : ops[g]? = some o') (hd : o'.dst = some d) (hdn : Nat.ble (d + 1) n = true) : AQ C ops K (o :: l) ⟨env, T, n⟩ :=
  AQ.no hg ho' hd (Nat.le_of_ble_eq_true hdn) hv h
/-- What every state says. -/
theorem AW.pure {c : Code} {p : Prop} (hp : ∀ a w, St C σ a w → p) (h : p → AW C c Q σ) : AW C c Q σ := fun a w hs => h (hp a w hs) a w hs
theorem AWL.pure {ops : Array Oper} {l : List Oper} {p : Prop} (hp : ∀ a w, St C σ a w → p) (h : p → AWL C ops Q l σ) : AWL C ops Q l σ := fun a w hs => h (hp a w hs) a w hs
theorem St.shape {a : Act} {w : World} (hs : St C σ a w) {r k : Nat} {u : Value} {e : TypeId} {es : List (List AV)} (hT : σ.T.slots[r]? = some (k, .nm u e es)) : u.oneCell' = true ∧ (0 < es.length → ∃ g c, u = slv g es.length c) := by
  obtain ⟨hd, hn, S, vals, bss, hm, he⟩ := hs
  obtain ⟨v, bs, hv, hb, hrep⟩ := hm.slot hT
  obtain ⟨rfl, hr⟩ := hrep.nm_inv
  exact ⟨hr.one, fun h0 => by obtain ⟨g, c, h, -, -⟩ := own_shape hr h0; exact ⟨g, c, h⟩⟩
/-- A named box is opened. -/
theorem Gh.openB {r k g n c : Nat} {e : TypeId} {es : List (List AV)} (t : Nat) (ht : t < σ.n) (hv : σ.env t = .v (ptv g 0)) (hT : σ.T.slots[r]? = some (k, .nm (slv g n c) e es)) (h0 : 0 < es.length) :
    Gh C σ ⟨upd σ.env t (.ptr r σ.T.ep 0 0), ⟨σ.T.slots.set r (σ.T.ep, .own e es), σ.T.ep + 1⟩, σ.n⟩ := by
  intro a w ⟨hd, hn, S, vals, bss, hm, he⟩
  obtain ⟨v, bs, hvr, hb, hrep⟩ := hm.slot hT
  obtain ⟨rfl, hr1⟩ := hrep.nm_inv
  have hrl : r < σ.T.slots.length := (List.getElem?_eq_some_iff.1 hT).1
  obtain ⟨hm1, hf1⟩ := hm.set (k' := σ.T.ep) (ep' := σ.T.ep + 1) hT hvr hb (Kept.refl _ w) hr1 (hm.nodup r bs hb) (fun b h => .inl h) (.inr ⟨rfl, rfl⟩)
  refine ⟨hd, hn, S, _, _, hm1, fun q hq => ?_⟩
  show TmpOK _ _ _ _ _ _ (upd σ.env t _ q)
  unfold upd
  split
  · rename_i h
    subst h
    have := he q hq
    rw [hv] at this
    rw [this.v]
    refine ⟨Nat.lt_succ_self _, rfl, fun e2 es2 v2 sz2 q1 q2 q3 => ?_⟩
    rw [getElem?_set_ _ _ _ _ hrl, if_pos rfl] at q1
    rw [getElem?_set_ _ _ _ _ (by rw [hm.nv]; exact hrl), if_pos rfl] at q2
    injection q1 with q1; injection q1 with _ q1; injection q1 with q1 q4
    injection q2 with q2
    subst q1; subst q2; subst q4
    exact ⟨h0, g, n, c, rfl, by simp [ptv]⟩
  · exact TmpOK.follows hf1 (he q hq)
end
/-! ### Regions that draw their order, whose operations' outcomes are only bounded -/
section
variable {C : Cx} {ops : Array Oper} {Q : Exit → Sta → Prop} {Ok : Sl → Prop}
def AX (C : Cx) (ops : Array Oper) (Q : Exit → Sta → Prop) (Ok : Sl → Prop) : Nat → Array Bool → Sta → Prop
  | 0, listed, σ => Region.ready .any ops listed = [] ∧ Q .normal σ
  | f + 1, listed, σ => (Region.ready .any ops listed = [] → Q .normal σ) ∧ ∀ i ∈ Region.ready .any ops listed, ∃ o p, ops[i]? = some o ∧ o.guard = none ∧ opsOk o σ.n = true ∧ OpX C o (evA σ.env) σ.T p ∧ ∀ x T', p x T' → Ok T' ∧ AX C ops Q Ok f (listed.setIfInBounds i true) ⟨putE σ.env o.dst x, T', σ.n⟩
theorem AWOp.opX {i : Nat} {o : Oper} {K : Sta → Prop} {σ : Sta} {p : AV → Sl → Prop} (hi : ops[i]? = some o) (hg : o.guard = none) (ho : opsOk o σ.n = true) (hj : OpX C o (evA σ.env) σ.T p) (h : ∀ x T', p x T' → K ⟨putE σ.env o.dst x, T', σ.n⟩) : AWOp C ops Q i K σ := by
  intro a w hs K' hK
  obtain ⟨hd, hn, S, vals, bss, hm, he⟩ := hs
  unfold wpOp
  simp only [hi, Region.wanted, hg, if_true]
  exact .inl (hj a w S vals bss hm (St.ops hn he ho) K' (fun x T' hp v w' S' vals' bss' hm' hf hx => hK _ _ _ (h x T' hp) (St.put hd hn he hm' hf hx)) _)
theorem AX.any : ∀ (f : Nat) (listed : Array Bool) (σ : Sta), AX C ops Q Ok f listed σ → AWAny C ops Q f listed σ
  | 0, _, _, h => AWAny.done h.1 h.2
  | f + 1, listed, σ, h => by
    by_cases hr : Region.ready .any ops listed = []
    · exact AWAny.done hr (h.1 hr)
    · refine AWAny.all rfl hr fun i hi => ?_
      obtain ⟨o, p, h1, h2, h3, h4, h6⟩ := h.2 i hi
      exact AWOp.opX h1 h2 h3 h4 fun x T' hp => AX.any f _ _ (h6 x T' hp).2
theorem AX.first {i : Nat} {oi : Oper} {x : AV} {n : Nat} {ev0 : Operand → AV} (hi : ops[i]? = some oi) (hg : oi.guard = none) (hok : opsOk oi n = true) (hj : ∀ T', Ok T' → OpJ C oi ev0 T' x T') :
    ∀ (f : Nat) (listed : Array Bool) (env : Nat → AV) (T : Sl),
      (∀ j oj, ops[j]? = some oj → j ≠ i → listed.getD j true = false → (∀ e ∈ oj.after, Region.binds .any e = true → e.on ≠ i) → oi.apart ops oj = true) →
      i ∈ Region.ready .any ops listed → (∀ y ∈ oi.op.operands, evA env y = ev0 y) → Ok T →
      AX C ops Q Ok f (listed.setIfInBounds i true) ⟨putE env oi.dst x, T, n⟩ → AX C ops Q Ok (f + 1) listed ⟨env, T, n⟩ := by
  intro f
  induction f with
  | zero =>
    intro listed env T _ hr hev hT H
    refine ⟨fun h => (by rw [h] at hr; cases hr), fun j hjr => ?_⟩
    by_cases hji : j = i
    · subst hji; exact ⟨oi, _, hi, hg, hok, ((hj T hT).congr hev).x, by rintro y T' ⟨rfl, rfl⟩; exact ⟨hT, H⟩⟩
    · have := ready_mono hjr hji
      rw [H.1] at this
      cases this
  | succ f ih =>
    intro listed env T hfree hr hev hT H
    have hun := (mem_ready.1 hr).1
    refine ⟨fun h => (by rw [h] at hr; cases hr), fun j hjr => ?_⟩
    by_cases hji : j = i
    · subst hji; exact ⟨oi, _, hi, hg, hok, ((hj T hT).congr hev).x, by rintro y T' ⟨rfl, rfl⟩; exact ⟨hT, H⟩⟩
    · obtain ⟨oj, p, h1, h2, h3, h4, h5⟩ := H.2 j (ready_mono hjr hji)
      obtain ⟨hjun, oj', hoj, hall⟩ := mem_ready.1 hjr
      have : oj' = oj := Option.some.inj (hoj.symm.trans h1)
      subst this
      have hnot : ∀ e ∈ oj'.after, Region.binds .any e = true → e.on ≠ i := fun e he hb heq => by
        have h1 := hall e he hb
        rw [heq, getD_both hun] at h1
        cases h1
      obtain ⟨a1, a2, a3⟩ := Oper.apart_spec (hfree j oj' hoj hji hjun hnot)
      have hfree' : ∀ k ok, ops[k]? = some ok → k ≠ i → (listed.setIfInBounds j true).getD k true = false → (∀ e ∈ ok.after, Region.binds .any e = true → e.on ≠ i) → oi.apart ops ok = true := fun k ok hk hki hun hno => by
        refine hfree k ok hk hki ?_ hno
        by_cases hjk : j = k
        · subst hjk; exact hjun
        · rw [getD_set_ne true hjk] at hun; exact hun
      refine ⟨oj', p, h1, h2, h3, h4.congr fun q hq => (evA_put a1 q hq).symm, fun y T' hp => ?_⟩
      obtain ⟨h6, h7⟩ := h5 y T' hp
      refine ⟨h6, ih _ _ _ hfree' (ready_mono hr (Ne.symm hji)) (fun q hq => (evA_put a3 q hq).trans (hev q hq)) h6 ?_⟩
      rw [Array.setIfInBounds_comm _ _ hji]
      rw [putE_comm (fun t ht ht' => a2 t ht ht')] at h7
      exact h7
theorem AW.ax {σ : Sta} {i n : Nat} {l : List Oper} (Ok : Sl → Prop) (hm : C.P.follows .mixedOrders = true) (hn : l.toArray.size = n) (h : AX C l.toArray Q Ok n (Array.replicate n false) σ) : AW C (.region i l.toArray true) Q σ := by
  subst hn
  exact AW.region_any hm (AX.any _ _ _ h)
end
section
variable {C : Cx} {Q : Exit → Sta → Prop} {ops : Array Oper} {Ok : Sl → Prop} {fuel : Nat} {listed : Array Bool} {o : Oper} {env : Nat → AV} {T T' : Sl} {n : Nat} {x : AV} {p : AV → Sl → Prop}
theorem axF (i : Nat) (hi : ops.toList[i]? = some o) (hj : ∀ T', Ok T' → OpJ C o (evA env) T' x T') (hT : Ok T) (hr : (Region.ready .any ops listed).contains i = true) (hf : Region.free .any ops listed i = true) (h : AX C ops Q Ok fuel (listed.setIfInBounds i true) ⟨putE env o.dst x, T, n⟩)
    (hg : o.guard = none := by rfl) (ho : opsOk o n = true := by rfl) : AX C ops Q Ok (fuel + 1) listed ⟨env, T, n⟩ :=
  AX.first (atL hi) hg ho hj fuel listed env T (Region.free_spec (atL hi) hf) (by simpa using hr) (fun _ _ => rfl) hT h
theorem axP (i : Nat) (hi : ops.toList[i]? = some o) (hj : ∀ T', Ok T' → OpP C o (evA env) T' x) (hT : Ok T) (hr : (Region.ready .any ops listed).contains i = true) (hf : Region.free .any ops listed i = true) (h : AX C ops Q Ok fuel (listed.setIfInBounds i true) ⟨putE env o.dst x, T, n⟩)
    (hg : o.guard = none := by rfl) (ho : opsOk o n = true := by rfl) : AX C ops Q Ok (fuel + 1) listed ⟨env, T, n⟩ := axF i hi (fun T' h => (hj T' h).j) hT hr hf h hg ho
theorem axR (i : Nat) (hi : ops.toList[i]? = some o) (hj : ∀ T', Ok T' → OpR C o (evA env) T' x) (hT : Ok T) (hr : (Region.ready .any ops listed).contains i = true) (hf : Region.free .any ops listed i = true) (h : AX C ops Q Ok fuel (listed.setIfInBounds i true) ⟨putE env o.dst x, T, n⟩)
    (hg : o.guard = none := by rfl) (ho : opsOk o n = true := by rfl) : AX C ops Q Ok (fuel + 1) listed ⟨env, T, n⟩ := axF i hi (fun T' h => (hj T' h).j) hT hr hf h hg ho
theorem axQ (i : Nat) (hi : ops.toList[i]? = some o) (hj : ∀ T', Ok T' → OpQ C o (evA env) T' x) (hT : Ok T) (hr : (Region.ready .any ops listed).contains i = true) (hf : Region.free .any ops listed i = true) (h : AX C ops Q Ok fuel (listed.setIfInBounds i true) ⟨putE env o.dst x, T, n⟩)
    (hg : o.guard = none := by rfl) (ho : opsOk o n = true := by rfl) : AX C ops Q Ok (fuel + 1) listed ⟨env, T, n⟩ := axF i hi (fun T' h => (hj T' h).j) hT hr hf h hg ho
/-- What is to be shown of an operation that may come next. -/
def AXi (C : Cx) (ops : Array Oper) (Q : Exit → Sta → Prop) (Ok : Sl → Prop) (fuel : Nat) (listed : Array Bool) (env : Nat → AV) (T : Sl) (n i : Nat) : Prop :=
  ∃ o p, ops.toList[i]? = some o ∧ o.guard = none ∧ opsOk o n = true ∧ OpX C o (evA env) T p ∧ ∀ x T', p x T' → Ok T' ∧ AX C ops Q Ok fuel (listed.setIfInBounds i true) ⟨putE env o.dst x, T', n⟩
theorem AXi.mk {i : Nat} (hi : ops.toList[i]? = some o) (hj : OpX C o (evA env) T p) (h : ∀ x T', p x T' → Ok T' ∧ AX C ops Q Ok fuel (listed.setIfInBounds i true) ⟨putE env o.dst x, T', n⟩) (hg : o.guard = none := by rfl) (ho : opsOk o n = true := by rfl) : AXi C ops Q Ok fuel listed env T n i := ⟨o, p, hi, hg, ho, hj, h⟩
theorem AXi.mkJ {i : Nat} (hi : ops.toList[i]? = some o) (hj : OpJ C o (evA env) T x T') (hT : Ok T') (h : AX C ops Q Ok fuel (listed.setIfInBounds i true) ⟨putE env o.dst x, T', n⟩) (hg : o.guard = none := by rfl) (ho : opsOk o n = true := by rfl) : AXi C ops Q Ok fuel listed env T n i :=
  AXi.mk hi hj.x (by rintro y T'' ⟨rfl, rfl⟩; exact ⟨hT, h⟩) hg ho
theorem axAll (rs : List Nat) (hr : Region.ready .any ops listed = rs) (hne : rs.isEmpty = false) (h : ∀ i ∈ rs, AXi C ops Q Ok fuel listed env T n i) : AX C ops Q Ok (fuel + 1) listed ⟨env, T, n⟩ := by
  refine ⟨fun h0 => (by rw [hr] at h0; subst h0; cases hne), fun j hj => ?_⟩
  rw [hr] at hj
  obtain ⟨o, p, h1, h2, h3, h4, h5⟩ := h j hj
  exact ⟨o, p, atL h1, h2, h3, h4, h5⟩
theorem ax1 (i1 : Nat) (hr : Region.ready .any ops listed = [i1]) (h1 : AXi C ops Q Ok fuel listed env T n i1) : AX C ops Q Ok (fuel + 1) listed ⟨env, T, n⟩ := axAll [i1] hr rfl (by simpa using h1)
theorem ax2 (i1 i2 : Nat) (hr : Region.ready .any ops listed = [i1, i2]) (h1 : AXi C ops Q Ok fuel listed env T n i1) (h2 : AXi C ops Q Ok fuel listed env T n i2) : AX C ops Q Ok (fuel + 1) listed ⟨env, T, n⟩ := axAll [i1, i2] hr rfl (by simpa using ⟨h1, h2⟩)
theorem ax3 (i1 i2 i3 : Nat) (hr : Region.ready .any ops listed = [i1, i2, i3]) (h1 : AXi C ops Q Ok fuel listed env T n i1) (h2 : AXi C ops Q Ok fuel listed env T n i2) (h3 : AXi C ops Q Ok fuel listed env T n i3) : AX C ops Q Ok (fuel + 1) listed ⟨env, T, n⟩ := axAll [i1, i2, i3] hr rfl (by simpa using ⟨h1, h2, h3⟩)
theorem axDone (hr : Region.ready .any ops listed = []) (h : Q .normal ⟨env, T, n⟩) : AX C ops Q Ok fuel listed ⟨env, T, n⟩ := by
  cases fuel with
  | zero => exact ⟨hr, h⟩
  | succ f => exact ⟨fun _ => h, fun i hi => by rw [hr] at hi; cases hi⟩
end
end Go.Proofs.Ytjgbbffcjbmjmaa
