import Derived.Test.YtdnofpggdddimaaVvb
import Derived.Test.YtdnofpggdddimaaProg
import Derived.KernelRfl
import Derived.Laws.StructEq
namespace Go.Proofs.Ytdnofpggdddimaa
open Go.RowKit
set_option linter.unusedSimpArgs false
set_option linter.unusedVariables false
set_option linter.unusedSectionVars false
abbrev slv (g n c : Nat) : Value := .slice (some ⟨g, 0, none⟩) n c
abbrev ptv (g j : Nat) : Value := .pointer (some ⟨g, j, none⟩)
section
variable {C : Cx} {T : Sl} {S : Nat → Prop} {vals : List Value} {bss : List (List Nat)} {w : World}
theorem Rep.nm_inv {P : Program} {bs : List Nat} {v u : Value} {e : TypeId} {es : List (List AV)} (h : Rep P S w bs v (.nm u e es)) : v = u ∧ Rep P S w bs u (.own e es) := by
  cases h with
  | nm h => exact ⟨rfl, h⟩
theorem set_same {α : Type} {l : List α} {r : Nat} {x : α} (h : l[r]? = some x) : l.set r x = l := by
  apply List.ext_getElem?
  intro j
  rw [List.getElem?_set]
  split
  · rename_i e; subst e; rw [if_pos (List.getElem?_eq_some_iff.1 h).1, h]
  rfl
/-- A slot gets its name. -/
theorem Mem.name {r k : Nat} {u : Value} {e : TypeId} {es : List (List AV)} (hm : Mem C T S vals bss w) (hT : T.slots[r]? = some (k, .own e es)) (hv : vals[r]? = some u) :
    Mem C ⟨T.slots.set r (k, .nm u e es), T.ep⟩ S vals bss w ∧ Follows C.P S w T vals S w ⟨T.slots.set r (k, .nm u e es), T.ep⟩ vals := by
  obtain ⟨v, bs, hv', hb, hrep⟩ := hm.slot hT
  obtain rfl : u = v := Option.some.inj (hv.symm.trans hv')
  have := hm.set (k' := k) (ep' := T.ep) hT hv hb (Kept.refl _ w) (.nm hrep) (hm.nodup r bs hb) (fun b h => .inl h) (.inl ⟨rfl, rfl, rfl, (fun e es h => by cases h), (fun b ks h => by cases h)⟩)
  rwa [set_same hv, set_same hb] at this
theorem own_shape {P : Program} {bs : List Nat} {u : Value} {e : TypeId} {es : List (List AV)} (h : Rep P S w bs u (.own e es)) (h0 : 0 < es.length) : ∃ g c, u = slv g es.length c ∧ es.length ≤ c ∧ c ≤ maxLen := by
  obtain ⟨us, sz, bss, -, -, -, hown, -⟩ := h.own_inv
  rcases hown.2 with ⟨-, h0'⟩ | ⟨g, cap, cur, rfl, -, -, h1, h2, -⟩
  · omega
  exact ⟨g, cap, rfl, h1, h2⟩
theorem ptr_first {r k : Nat} {u v : Value} {e : TypeId} {es : List (List AV)} {bs : List Nat} (hT : T.slots[r]? = some (k, .own e es)) (hv : vals[r]? = some v) (hrep : Rep C.P S w bs v (.own e es)) (hu : TmpOK C.P S w T vals u (.ptr r k 0 0)) : ∃ g c, v = slv g es.length c ∧ u = ptv g 0 := by
  obtain ⟨us, sz, bss1, -, hi, -, -, -⟩ := hrep.own_inv
  obtain ⟨h0, g, n, cap, hve, hue⟩ := hu.2.2 e es v sz hT hv hi
  obtain ⟨g', c', hs, -, -⟩ := own_shape hrep (by omega)
  rw [hs] at hve
  injection hve with e1 e2 e3
  injection e1 with e1
  injection e1 with e1
  subst e1
  exact ⟨g', c', hs, by rw [hue]; simp⟩
end
section
variable {C : Cx} {o : Oper} {ev : Operand → AV} {T : Sl}
theorem op_ia_v {t e : TypeId} {y i : Operand} {kk : IntKind} {n : Int} {g len c : Nat} (m sz : Nat) (ho : o.op = .indexAddr t y i) (hy : ev y = .v (slv g len c)) (hi : ev i = .v (.int kk n)) (ht : C.P.underlying t = some (.slice e)) (hn : n = (m : Int)) (hm : m < len) (hs : sizeIs C.P e sz) {j : Nat} (hj : m * sz = j) : OpP C o ev T (.v (ptv g j)) := by
  intro a w S vals bss hme h
  have h1 := h y (by simp [ho, Op.operands])
  have h2 := h i (by simp [ho, Op.operands])
  rw [hi] at h2
  rw [hy] at h1
  have hee := elem_eq ht
  subst hn; subst hj
  have hlt : (m : Int) < (len : Int) := by omega
  refine ⟨.pointer (some ⟨g, m * sz, none⟩), fun w => ?_, TmpOK.v_ rfl⟩
  simp [execOp, ho, h1.v, h2.v, slv, run_indexAt_slice w t _ _ _ _ _ (by rw [hee]; exact ht), hlt, hee, run_sizeOf hs, add_off]
theorem op_len_v {t e : TypeId} {y : Operand} {A : Option Addr} {n c : Nat} (ho : o.op = .call { callee := .builtin .len, args := #[y], argTypes := #[t] }) (hy : ev y = .v (.slice A n c)) (ht : C.P.underlying t = some (.slice e)) : OpP C o ev T (.v (.int .i64 n)) := by
  intro a w S vals bss hm h
  have h1 := h y (by simp [ho, Op.operands, Call.operands])
  rw [hy] at h1
  refine ⟨_, fun w => ?_, TmpOK.v_ rfl⟩
  have hee := elem_eq ht
  simp [execOp, ho, resolve, invoke, builtin, h1.v, run_len_slice w t _ _ _ _ (by rw [hee]; exact ht), goInt]
theorem op_store_v {t : TypeId} {y z : Operand} {x : AV} {g n c j sz : Nat} {e : TypeId} {es : List (List AV)} {row xs : List AV} {m : Nat} (r k i q : Nat) (ho : o.op = .store t y z) (hy : ev y = .v (ptv g j)) (hz : ev z = x) (hT : T.slots[r]? = some (k, .nm (slv g n c) e es)) (hrow : es[i]? = some row) (hx : rowOf x = some xs) (hs : sizeIs C.P t m) (hn : xs.length = m) (hse : sizeIs C.P e sz) (hj : j = i * sz + q) (hjl : q + xs.length ≤ row.length)
    {es' : List (List AV)} (he : es.set i (splice row q xs) = es') {T' : Sl} (hT' : (⟨T.slots.set r (k, .nm (slv g n c) e es'), T.ep⟩ : Sl) = T') : OpJ C o ev T .any T' := by
  subst hT'
  intro a w S vals bss hm h K hK Q
  have h1 := h y (by simp [ho, Op.operands])
  have h2 := h z (by simp [ho, Op.operands])
  rw [hy] at h1
  rw [hz] at h2
  obtain ⟨v, bs, hv, hb, hrep0⟩ := hm.slot hT
  obtain ⟨rfl, hrep⟩ := hrep0.nm_inv
  have hrl := h2.row hx
  obtain ⟨g', cap, cur, sz', bs', hve, hg, hsz, hfit, hgb, hrep', hnd', hsub⟩ := hrep.own_set (hm.nodup r bs hb) (hm.apart r bs hb) hrow (vs := (a.eval z).cells.toList) (xs := xs) (bvs := List.replicate xs.length []) (by simp only [List.length_replicate]; exact hrl.1.symm) hrl.1 (fun q u x b h1 h2 h3 => by
    have : b = [] := by rw [List.getElem?_replicate] at h3; split at h3 <;> simp_all
    subst this
    exact hrl.2 q u x h1 h2) (by simp) (by simp) hjl
  obtain rfl := sizeIs.inj hse hsz
  injection hve with e1 e2 e3
  injection e1 with e1
  injection e1 with e1
  subst e1
  have hrun := run_store_at (P := C.P) hs g (i * sz + q) e cur (a.eval z) w hg (by rw [← hn, ← hrl.1]; simp) (by simpa using hfit) fun u hu => by
    obtain ⟨q, hq, rfl⟩ := List.getElem_of_mem hu
    exact (hrl.2 q _ (xs[q]'(by rw [← hrl.1]; exact hq)) (List.getElem?_eq_getElem _) (List.getElem?_eq_getElem _)).one
  have hk : Kept (fun q => q ∉ bs) w (w.setRow g (cur.toList.take (i * sz + q) ++ (a.eval z).cells.toList ++ cur.toList.drop (i * sz + q + (a.eval z).cells.toList.length)).toArray) := ⟨rfl, rfl, rfl, by simp, fun k _ hk' => setRow_other w g k _ (fun e => hk' (e ▸ hgb))⟩
  rw [he] at hrep'
  obtain ⟨hm', hf⟩ := hm.set (k' := k) (ep' := T.ep) hT hv hb hk (.nm hrep') hnd' (fun b hb' => .inl ((hsub b hb').resolve_right (by simp))) (.inl ⟨rfl, rfl, rfl, (fun e es h => by cases h), (fun b ks h => by cases h)⟩)
  unfold Oper.wp execOp
  simp only [ho, h1.v, ptv, hj, hrun, Sem.run_bind, Result.andThen_ok, Sem.run_pure, Oper.upon_skip]
  exact hK undef _ _ _ _ hm' hf trivial
def OpX (C : Cx) (o : Oper) (ev : Operand → AV) (T : Sl) (p : AV → Sl → Prop) : Prop :=
  ∀ (a : Act) (w : World) (S : Nat → Prop) (vals : List Value) (bss : List (List Nat)), Mem C T S vals bss w → (∀ y ∈ o.op.operands, TmpOK C.P S w T vals (a.eval y) (ev y)) →
    ∀ (K : Act → World → Prop), (∀ x T', p x T' → ∀ v w' S' vals' bss', Mem C T' S' vals' bss' w' → Follows C.P S w T vals S' w' T' vals' → TmpOK C.P S' w' T' vals' v x → K (a.put o.dst v) w') → ∀ Q, o.wp C.P a w K Q
theorem OpJ.x {x : AV} {T' : Sl} (h : OpJ C o ev T x T') : OpX C o ev T fun y T'' => y = x ∧ T'' = T' := fun a w S vals bss hm ho K hK Q =>
  h a w S vals bss hm ho K (fun v w' S' vals' bss' h1 h2 h3 => hK _ _ ⟨rfl, rfl⟩ v w' S' vals' bss' h1 h2 h3) Q
theorem OpX.congr {ev' : Operand → AV} {p : AV → Sl → Prop} (h : OpX C o ev T p) (he : ∀ y ∈ o.op.operands, ev' y = ev y) : OpX C o ev' T p :=
  fun a w S vals bss hm ho => h a w S vals bss hm fun y hy => by rw [← he y hy]; exact ho y hy
/-- All slots are lent to a closure over plain values. -/
def nmB : AV → AV → Prop
  | .nm u e _, x => ∃ es, x = .nm u e es
  | _, _ => False
end
section
variable {C : Cx} {Q : Exit → Sta → Prop} {σ : Sta}
theorem awYes {ops : Array Oper} {l : List Oper} {o o' : Oper} {env : Nat → AV} {T T' : Sl} {n : Nat} {x : AV} (g d : Nat) {b : Bool} (hj : OpJ C o (evA env) T x T') (h : AWL C ops Q l ⟨putE env o.dst x, T', n⟩) (hv : env d = .v (.bool b)) (hg : o.guard = some (g, b)) (ho' : ops[g]? = some o') (hd : o'.dst = some d) (hdn : Nat.ble (d + 1) n = true) (ho : opsOk o n = true := by rfl) : AWL C ops Q (o :: l) ⟨env, T, n⟩ := by
  intro a w hs
  have hdn' : d < n := Nat.le_of_ble_eq_true hdn
  have hb := hs.bool (c := .tmp d) (t := b) (by simpa [noneBig] using hdn') rfl hv
  obtain ⟨hdf, hn, S, vals, bss, hm, he⟩ := hs
  have hw : Region.wanted o (yielded ops a.tmps) = true := by
    have hlt : d < a.tmps.size := by rw [hn]; exact hdn'
    simp [Act.eval, hlt] at hb
    simp [Region.wanted, hg, yielded, ho', hd, hlt, hb]
  unfold wpList
  rw [if_pos hw]
  exact .inl (hj a w S vals bss hm (St.ops (σ := ⟨env, T, n⟩) hn he ho) _ (fun v w' S' vals' bss' hm' hf hx => h _ _ (St.put (σ := ⟨env, T, n⟩) hdf hn he hm' hf hx)) _)
theorem awNo {ops : Array Oper} {l : List Oper} {o o' : Oper} {env : Nat → AV} {T : Sl} {n : Nat} (g d : Nat) {b : Bool} (h : AWL C ops Q l ⟨putE env o.dst .any, T, n⟩) (hv : env d = .v (.bool b)) (hg : o.guard = some (g, !b)) (ho' : ops[g]? = some o') (hd : o'.dst = some d) (hdn : Nat.ble (d + 1) n = true) : AWL C ops Q (o :: l) ⟨env, T, n⟩ := by
  intro a w hs
  have hdn' : d < n := Nat.le_of_ble_eq_true hdn
  have hb := hs.bool (c := .tmp d) (t := b) (by simpa [noneBig] using hdn') rfl hv
  obtain ⟨hdf, hn, S, vals, bss, hm, he⟩ := hs
  have hw : ¬ Region.wanted o (yielded ops a.tmps) = true := by
    have hlt : d < a.tmps.size := by rw [hn]; exact hdn'
    simp [Act.eval, hlt] at hb
    simp [Region.wanted, hg, yielded, ho', hd, hlt, hb]
  unfold wpList
  rw [if_neg hw]
  exact h _ _ (St.put (σ := ⟨env, T, n⟩) hdf hn he hm Follows.refl TmpOK.any_)
theorem aqNo {ops : Array Oper} {K : Sta → Prop} {l : List Oper} {o o' : Oper} {env : Nat → AV} {T : Sl} {n : Nat} (g d : Nat) {b : Bool} (h : AQ C ops K l ⟨putE env o.dst .any, T, n⟩) (hv : env d = .v (.bool b)) (hg : o.guard = some (g, !b)) (ho' : ops[g]? = some o') (hd : o'.dst = some d) (hdn : Nat.ble (d + 1) n = true) : AQ C ops K (o :: l) ⟨env, T, n⟩ :=
  AQ.no hg ho' hd (Nat.le_of_ble_eq_true hdn) hv h
/-- What every state says. -/
theorem AW.pure {c : Code} {p : Prop} (hp : ∀ a w, St C σ a w → p) (h : p → AW C c Q σ) : AW C c Q σ := fun a w hs => h (hp a w hs) a w hs
theorem AWL.pure {ops : Array Oper} {l : List Oper} {p : Prop} (hp : ∀ a w, St C σ a w → p) (h : p → AWL C ops Q l σ) : AWL C ops Q l σ := fun a w hs => h (hp a w hs) a w hs
theorem St.shape {a : Act} {w : World} (hs : St C σ a w) {r k : Nat} {u : Value} {e : TypeId} {es : List (List AV)} (hT : σ.T.slots[r]? = some (k, .nm u e es)) : u.oneCell' = true ∧ (0 < es.length → ∃ g c, u = slv g es.length c) := by
  obtain ⟨hd, hn, S, vals, bss, hm, he⟩ := hs
  obtain ⟨v, bs, hv, hb, hrep⟩ := hm.slot hT
  obtain ⟨rfl, hr⟩ := hrep.nm_inv
  exact ⟨hr.one, fun h0 => by obtain ⟨g, c, h, -, -⟩ := own_shape hr h0; exact ⟨g, c, h⟩⟩
end
section
variable {C : Cx} {ops : Array Oper} {Q : Exit → Sta → Prop} {Ok : Sl → Prop}
/-- What is known of an operation's guard: t: it is carried out. -/
def Want (ops : Array Oper) (env : Nat → AV) (n : Nat) (o : Oper) (t : Bool) : Prop :=
  (o.guard = none ∧ t = true) ∨ ∃ g p o' d b, o.guard = some (g, p) ∧ ops[g]? = some o' ∧ o'.dst = some d ∧ d < n ∧ env d = .v (.bool b) ∧ t = (b == p)
theorem Want.put {env : Nat → AV} {n : Nat} {oi o : Oper} {t : Bool} {x : AV} (h : Want ops (putE env oi.dst x) n o t) (ha : ∀ d, oi.dst = some d → d ∉ o.looksAt ops) : Want ops env n o t := by
  rcases h with h | ⟨g, p, o', d, b, h1, h2, h3, h4, h5, h6⟩
  · exact .inl h
  refine .inr ⟨g, p, o', d, b, h1, h2, h3, h4, ?_, h6⟩
  have hne : oi.dst ≠ some d := fun he => ha d he (by simp [Oper.looksAt, h1, h2, h3])
  cases hd : oi.dst with
  | none => rw [hd] at h5; exact h5
  | some q =>
    rw [hd] at h5
    have hqd : ¬ d = q := fun e => hne (by rw [hd, e])
    have h5' : upd env q x d = .v (.bool b) := h5
    unfold upd at h5'
    rwa [if_neg hqd] at h5'
def AX (C : Cx) (ops : Array Oper) (Q : Exit → Sta → Prop) (Ok : Sl → Prop) : Nat → Array Bool → Sta → Prop
  | 0, listed, σ => Region.ready .any ops listed = [] ∧ Q .normal σ
  | f + 1, listed, σ => (Region.ready .any ops listed = [] → Q .normal σ) ∧ ∀ i ∈ Region.ready .any ops listed, ∃ o t, ops[i]? = some o ∧ Want ops σ.env σ.n o t ∧ opsOk o σ.n = true ∧
      (t = true → ∃ p, OpX C o (evA σ.env) σ.T p ∧ ∀ x T', p x T' → Ok T' ∧ AX C ops Q Ok f (listed.setIfInBounds i true) ⟨putE σ.env o.dst x, T', σ.n⟩) ∧
      (t = false → AX C ops Q Ok f (listed.setIfInBounds i true) ⟨putE σ.env o.dst .any, σ.T, σ.n⟩)
theorem AWOp.want {i : Nat} {o : Oper} {K : Sta → Prop} {σ : Sta} {t : Bool} (hi : ops[i]? = some o) (hw : Want ops σ.env σ.n o t) (ho : opsOk o σ.n = true)
    (h1 : t = true → ∃ p, OpX C o (evA σ.env) σ.T p ∧ ∀ x T', p x T' → K ⟨putE σ.env o.dst x, T', σ.n⟩) (h2 : t = false → K ⟨putE σ.env o.dst .any, σ.T, σ.n⟩) : AWOp C ops Q i K σ := by
  intro a w hs K' hK
  have hwt : Region.wanted o (yielded ops a.tmps) = t := by
    rcases hw with ⟨hg, rfl⟩ | ⟨g, p, o', d, b, hg, ho', hd, hdn, hv, rfl⟩
    · simp [Region.wanted, hg]
    have hb := hs.bool (c := .tmp d) (t := b) (by simpa [noneBig] using hdn) rfl hv
    have hlt : d < a.tmps.size := by obtain ⟨-, hn, -⟩ := hs; rw [hn]; exact hdn
    simp [Act.eval, hlt] at hb
    cases b <;> cases p <;> simp [Region.wanted, hg, yielded, ho', hd, hlt, hb]
  obtain ⟨hd, hn, S, vals, bss, hm, he⟩ := hs
  unfold wpOp
  simp only [hi, hwt]
  cases t with
  | true =>
    obtain ⟨p, hj, h⟩ := h1 rfl
    rw [if_pos rfl]
    exact .inl (hj a w S vals bss hm (St.ops hn he ho) K' (fun x T' hp v w' S' vals' bss' hm' hf hx => hK _ _ _ (h x T' hp) (St.put hd hn he hm' hf hx)) _)
  | false =>
    rw [if_neg (by simp)]
    exact hK _ _ _ (h2 rfl) (St.put hd hn he hm Follows.refl TmpOK.any_)
theorem AX.any : ∀ (f : Nat) (listed : Array Bool) (σ : Sta), AX C ops Q Ok f listed σ → AWAny C ops Q f listed σ
  | 0, _, _, h => AWAny.done h.1 h.2
  | f + 1, listed, σ, h => by
    by_cases hr : Region.ready .any ops listed = []
    · exact AWAny.done hr (h.1 hr)
    refine AWAny.all rfl hr fun i hi => ?_
    obtain ⟨o, t, h1, h2, h3, h4, h5⟩ := h.2 i hi
    exact AWOp.want h1 h2 h3 (fun ht => by obtain ⟨p, hp, hk⟩ := h4 ht; exact ⟨p, hp, fun x T' hx => AX.any f _ _ (hk x T' hx).2⟩) fun ht => AX.any f _ _ (h5 ht)
theorem AX.first {i : Nat} {oi : Oper} {x : AV} {n : Nat} {ev0 : Operand → AV} (hi : ops[i]? = some oi) (hg : oi.guard = none) (hok : opsOk oi n = true) (hj : ∀ T', Ok T' → OpJ C oi ev0 T' x T') :
    ∀ (f : Nat) (listed : Array Bool) (env : Nat → AV) (T : Sl),
      (∀ j oj, ops[j]? = some oj → j ≠ i → listed.getD j true = false → (∀ e ∈ oj.after, Region.binds .any e = true → e.on ≠ i) → oi.apart ops oj = true) →
      i ∈ Region.ready .any ops listed → (∀ y ∈ oi.op.operands, evA env y = ev0 y) → Ok T →
      AX C ops Q Ok f (listed.setIfInBounds i true) ⟨putE env oi.dst x, T, n⟩ → AX C ops Q Ok (f + 1) listed ⟨env, T, n⟩ := by
  intro f
  have self : ∀ (f : Nat) (listed : Array Bool) (env : Nat → AV) (T : Sl), (∀ y ∈ oi.op.operands, evA env y = ev0 y) → Ok T → AX C ops Q Ok f (listed.setIfInBounds i true) ⟨putE env oi.dst x, T, n⟩ →
      ∃ o t, ops[i]? = some o ∧ Want ops env n o t ∧ opsOk o n = true ∧ (t = true → ∃ p, OpX C o (evA env) T p ∧ ∀ x T', p x T' → Ok T' ∧ AX C ops Q Ok f (listed.setIfInBounds i true) ⟨putE env o.dst x, T', n⟩) ∧ (t = false → AX C ops Q Ok f (listed.setIfInBounds i true) ⟨putE env o.dst .any, T, n⟩) :=
    fun f listed env T hev hT H => ⟨oi, true, hi, .inl ⟨hg, rfl⟩, hok, fun _ => ⟨_, ((hj T hT).congr hev).x, by rintro y T' ⟨rfl, rfl⟩; exact ⟨hT, H⟩⟩, fun h => by cases h⟩
  induction f with
  | zero =>
    intro listed env T _ hr hev hT H
    refine ⟨fun h => (by rw [h] at hr; cases hr), fun j hjr => ?_⟩
    by_cases hji : j = i
    · subst hji; exact self 0 listed env T hev hT H
    have := ready_mono hjr hji
    rw [H.1] at this
    cases this
  | succ f ih =>
    intro listed env T hfree hr hev hT H
    have hun := (mem_ready.1 hr).1
    refine ⟨fun h => (by rw [h] at hr; cases hr), fun j hjr => ?_⟩
    by_cases hji : j = i
    · subst hji; exact self (f + 1) listed env T hev hT H
    obtain ⟨oj, t, h1, h2, h3, h4, h5⟩ := H.2 j (ready_mono hjr hji)
    obtain ⟨hjun, oj', hoj, hall⟩ := mem_ready.1 hjr
    have : oj' = oj := Option.some.inj (hoj.symm.trans h1)
    subst this
    have hnot : ∀ e ∈ oj'.after, Region.binds .any e = true → e.on ≠ i := fun e he hb heq => by
      have h1 := hall e he hb
      rw [heq, getD_both hun] at h1
      cases h1
    obtain ⟨a1, a2, a3⟩ := Oper.apart_spec (hfree j oj' hoj hji hjun hnot)
    have hfree' : ∀ k ok, ops[k]? = some ok → k ≠ i → (listed.setIfInBounds j true).getD k true = false → (∀ e ∈ ok.after, Region.binds .any e = true → e.on ≠ i) → oi.apart ops ok = true := fun k ok hk hki hun hno => by
      refine hfree k ok hk hki ?_ hno
      by_cases hjk : j = k
      · subst hjk; exact hjun
      rw [getD_set_ne true hjk] at hun; exact hun
    have step : ∀ (y : AV) (T' : Sl), Ok T' → AX C ops Q Ok f ((listed.setIfInBounds i true).setIfInBounds j true) ⟨putE (putE env oi.dst x) oj'.dst y, T', n⟩ → AX C ops Q Ok (f + 1) (listed.setIfInBounds j true) ⟨putE env oj'.dst y, T', n⟩ := fun y T' h6 h7 => by
      refine ih _ _ _ hfree' (ready_mono hr (Ne.symm hji)) (fun q hq => (evA_put a3 q hq).trans (hev q hq)) h6 ?_
      rw [Array.setIfInBounds_comm _ _ hji]
      rw [putE_comm (fun t ht ht' => a2 t ht ht')] at h7
      exact h7
    refine ⟨oj', t, h1, h2.put a1, h3, fun ht => ?_, fun ht => step _ _ hT (h5 ht)⟩
    obtain ⟨p, hp, hk⟩ := h4 ht
    exact ⟨p, hp.congr fun q hq => (evA_put a1 q hq).symm, fun y T' hy => ⟨(hk y T' hy).1, step _ _ (hk y T' hy).1 (hk y T' hy).2⟩⟩
end
section
variable {C : Cx} {Q : Exit → Sta → Prop} {ops : Array Oper} {Ok : Sl → Prop} {fuel : Nat} {listed : Array Bool} {o : Oper} {env : Nat → AV} {T T' : Sl} {n : Nat} {x : AV} {p : AV → Sl → Prop}
/-- What is to be shown of an operation that may come next. -/
def AXi (C : Cx) (ops : Array Oper) (Q : Exit → Sta → Prop) (Ok : Sl → Prop) (fuel : Nat) (listed : Array Bool) (env : Nat → AV) (T : Sl) (n i : Nat) : Prop :=
  ∃ o t, ops.toList[i]? = some o ∧ Want ops env n o t ∧ opsOk o n = true ∧ (t = true → ∃ p, OpX C o (evA env) T p ∧ ∀ x T', p x T' → Ok T' ∧ AX C ops Q Ok fuel (listed.setIfInBounds i true) ⟨putE env o.dst x, T', n⟩) ∧
    (t = false → AX C ops Q Ok fuel (listed.setIfInBounds i true) ⟨putE env o.dst .any, T, n⟩)
theorem AXi.mk {i : Nat} (hi : ops.toList[i]? = some o) (hj : OpX C o (evA env) T p) (h : ∀ x T', p x T' → Ok T' ∧ AX C ops Q Ok fuel (listed.setIfInBounds i true) ⟨putE env o.dst x, T', n⟩) (hg : o.guard = none := by rfl) (ho : opsOk o n = true := by rfl) : AXi C ops Q Ok fuel listed env T n i := ⟨o, true, hi, .inl ⟨hg, rfl⟩, ho, fun _ => ⟨p, hj, h⟩, fun h => by cases h⟩
/-- A guarded operation that is carried out, and one that is not. -/
theorem AXi.yes {i : Nat} {o' : Oper} (g d : Nat) {b : Bool} (hi : ops.toList[i]? = some o) (hj : OpJ C o (evA env) T x T') (hT : Ok T') (h : AX C ops Q Ok fuel (listed.setIfInBounds i true) ⟨putE env o.dst x, T', n⟩) (hv : env d = .v (.bool b)) (hg : o.guard = some (g, b)) (ho' : ops.toList[g]? = some o') (hd : o'.dst = some d) (hdn : Nat.ble (d + 1) n = true) (ho : opsOk o n = true := by rfl) : AXi C ops Q Ok fuel listed env T n i :=
  ⟨o, true, hi, .inr ⟨g, b, o', d, b, hg, atL ho', hd, Nat.le_of_ble_eq_true hdn, hv, by simp⟩, ho, fun _ => ⟨_, hj.x, by rintro y T'' ⟨rfl, rfl⟩; exact ⟨hT, h⟩⟩, fun h => by cases h⟩
theorem AXi.no {i : Nat} {o' : Oper} (g d : Nat) {b : Bool} (hi : ops.toList[i]? = some o) (h : AX C ops Q Ok fuel (listed.setIfInBounds i true) ⟨putE env o.dst .any, T, n⟩) (hv : env d = .v (.bool b)) (hg : o.guard = some (g, !b)) (ho' : ops.toList[g]? = some o') (hd : o'.dst = some d) (hdn : Nat.ble (d + 1) n = true) (ho : opsOk o n = true := by rfl) : AXi C ops Q Ok fuel listed env T n i :=
  ⟨o, false, hi, .inr ⟨g, !b, o', d, b, hg, atL ho', hd, Nat.le_of_ble_eq_true hdn, hv, by cases b <;> rfl⟩, ho, fun h => (by cases h), fun _ => h⟩
theorem AXi.ready {i : Nat} (hne : Region.ready .any ops listed ≠ []) (h : AXi C ops Q Ok fuel listed env T n i) : ∃ o t, ops[i]? = some o ∧ Want ops env n o t ∧ opsOk o n = true ∧ (t = true → ∃ p, OpX C o (evA env) T p ∧ ∀ x T', p x T' → Ok T' ∧ AX C ops Q Ok fuel (listed.setIfInBounds i true) ⟨putE env o.dst x, T', n⟩) ∧
    (t = false → AX C ops Q Ok fuel (listed.setIfInBounds i true) ⟨putE env o.dst .any, T, n⟩) := by
  obtain ⟨o, t, h1, h2⟩ := h
  exact ⟨o, t, atL h1, h2⟩
end
end Go.Proofs.Ytdnofpggdddimaa
namespace Go.Proofs.Ytdnofpggdddimaa
open Go.RowKit
set_option linter.unusedSimpArgs false
set_option linter.unusedVariables false
set_option linter.unusedSectionVars false
def nmE (u : Value) (e : TypeId) (es : List (List AV)) : AV := if es = [] then .any else .nm u e es
section
variable {C : Cx} {o : Oper} {ev : Operand → AV} {T : Sl}
/-- []T{} -/
theorem op_lit0 {t e : TypeId} {sz : Nat} (ho : o.op = .buildSlice t 0 #[]) (ht : C.P.underlying t = some (.slice e)) (hi : sizeIs C.P e sz) : OpJ C o ev T (.rof []) T := by
  intro a w S vals bss hm h K hK Q
  have hsz := run_sizeOf (P := C.P) hi w
  have hrun : (execOp a.eval o).run C.P w = .ok (.value (.slice (some ⟨w.heap.size, 0, none⟩) 0 0)) (w.alloc (.cells #[] e)) := by
    have he : execOp a.eval o = (do let v ← Instr.buildSlice t 0 #[]; pure (Next.value v) : Sem Next) := by simp [execOp, ho]
    rw [he]
    simp [Instr.buildSlice, run_underlying ht, hsz, newRow, Instr.fill, Array.range_zero']
  have hk : Kept (fun _ => True) w (w.alloc (.cells #[] e)) := (Kept.refl _ _).alloc _
  unfold Oper.wp
  rw [hrun, Oper.upon_value]
  refine hK _ _ _ _ _ (hm.grow hk) (Follows.kept hk (fun _ _ _ => trivial) (fun _ h => h)) ?_
  exact Rep.rof (es := []) (us := []) (sz := sz) (by simp [maxLen]) (by simp) (fun h => absurd h (by simp)) rfl (by simp)
end
section
variable {C : Cx} {σ : Sta}
/-- A cell that holds an empty slice. -/
theorem Gh.cell0 {e : TypeId} {es : List (List AV)} {row : List AV} {r k c : Nat} {A : Option Addr} (i j : Nat) (hT : σ.T.slots[r]? = some (k, .own e es)) (hrow : es[i]? = some row) (hx : row[j]? = some (.v (.slice A 0 c))) (hc : c ≤ maxLen)
    {es2 : List (List AV)} (he2 : es.set i (row.set j (.ro [])) = es2) : Gh C σ ⟨σ.env, ⟨σ.T.slots.set r (k, .own e es2), σ.T.ep⟩, σ.n⟩ := by
  subst he2
  intro a w ⟨hd, hn, S, vals, bss, hm, he⟩
  obtain ⟨v, bs, hv, hb, hrep⟩ := hm.slot hT
  have hjl : j < row.length := (List.getElem?_eq_some_iff.1 hx).1
  obtain ⟨us, sz, bss1, rfl, hi, hsz, hown, hul, hbl, hcc⟩ := hrep.own_inv
  have hrl2 := hsz row (List.mem_of_getElem? hrow)
  have hf := flat_at hsz hrow hx
  have hlt : i * sz + j < us.length := by rw [hul]; exact (List.getElem?_eq_some_iff.1 hf).1
  have h1 := List.getElem?_eq_getElem hlt
  have h2 := List.getElem?_eq_getElem (l := bss1) (by rw [hbl]; exact hlt)
  have hcell := hcc _ _ _ _ h1 hf h2
  have hrep' : Rep C.P S w (v.ownBlock.toList ++ bss1.flatten) v (.own e (es.set i (row.set j (.ro [])))) := by
    refine Rep.own (us := us) hi (fun x hx' => ?_) (by rw [List.length_set]; exact hown) (by rw [set_flat hsz hrow hjl, List.length_set]; exact hul) hbl fun p u1 x b q1 q2 q3 => ?_
    · rcases List.mem_or_eq_of_mem_set hx' with h' | h'
      · exact hsz x h'
      rw [h', List.length_set]; exact hrl2
    rw [set_flat hsz hrow hjl, List.getElem?_set] at q2
    by_cases hp : i * sz + j = p
    · subst hp
      rw [if_pos rfl, if_pos (by rw [← hul]; exact hlt)] at q2
      injection q2 with q2
      subst q2
      rw [h1] at q1; injection q1 with q1; subst q1
      rw [h2] at q3; injection q3 with q3; subst q3
      rw [hcell.v_inv.2.1, hcell.v_inv.1]
      exact Rep.ro (es := []) (us := []) (sz := 0) (Nat.zero_le _) hc (by simp) (fun h => absurd h (by simp)) rfl (by simp)
    rw [if_neg hp] at q2
    exact hcc p u1 x b q1 q2 q3
  obtain ⟨hm', hf'⟩ := hm.set hT hv hb (Kept.refl _ _) hrep' (hm.nodup r _ hb) (fun b h => .inl h) (.inl ⟨rfl, rfl, rfl, fun e' es2 h => (by injection h with h1 h2; subst h1; subst h2; exact ⟨es, rfl, (List.length_set ..).symm⟩), fun b ks h => (by cases h)⟩)
  exact ⟨hd, hn, S, _, _, hm', fun t ht => TmpOK.follows hf' (he t ht)⟩
end
end Go.Proofs.Ytdnofpggdddimaa
namespace Go.Proofs.Ytdnofpggdddimaa
open Go.RowKit
set_option linter.unusedSimpArgs false
set_option linter.unusedVariables false
set_option linter.unusedSectionVars false
section
variable {C : Cx} {o : Oper} {ev : Operand → AV} {T : Sl}
theorem RefOK.repA {P : Program} {S : Nat → Prop} {w : World} {T : Sl} {vals : List Value} {u : Value} {x : AV} (h : RefOK P S w T vals u x) (hx : repA x = true) : Rep P S w [] u x := by
  cases x <;> first | exact h | cases hx
theorem Rep.bm_inv {P : Program} {S : Nat → Prop} {w : World} {bs : List Nat} {u : Value} {f : FuncId} {cs : List AV} (h : Rep P S w bs u (.bm f cs)) : ∃ us : List Value, u = .func (.func f) #[.agg us.toArray] #[] ∧ us.length = cs.length ∧ ∀ (i : Nat) (u : Value) (x : AV), us[i]? = some u → cs[i]? = some x → Rep P S w [] u x := by
  cases h with
  | bm h1 h2 => exact ⟨_, rfl, h1, h2⟩
theorem op_bind {f : FuncId} {y : Operand} {cs : List AV} (ho : o.op = .makeFunc (.func f) #[y] #[]) (hy : ev y = .agg cs) (hx : cs.all repA = true) : OpP C o ev T (.bm f cs) := by
  intro a w S vals bss hm h
  have h1 := h y (by simp [ho, Op.operands])
  rw [hy] at h1
  obtain ⟨us, e, rl⟩ := h1.agg
  refine ⟨.func (.func f) #[.agg us] #[], fun w => ?_, ?_⟩
  · simp [execOp, ho, Instr.makeFunc, e]
  have := Rep.bm (P := C.P) (S := S) (w := w) (f := f) (us := us.toList) rl.1 fun i u x hu hx' => (rl.2 i u x hu hx').repA (List.all_eq_true.1 hx _ (List.mem_of_getElem? hx'))
  exact this
theorem op_bmQ {f : FuncId} {p : Operand} {ts : Array TypeId} {cs : List AV} {y : Value} (ho : o.op = .call { callee := .value p, args := #[], argTypes := ts }) (hp : ev p = .bm f cs) (hf : Enters C.P f) (hsp : Fn C.P f [] [.agg cs] [.v y] []) (hx : y.oneCell' = true) : OpQ C o ev T (.v y) := by
  intro a w S vals bss hm h
  refine ⟨y, fun w' hk => ?_, TmpOK.v_ hx⟩
  have hp1 := h p (by simp [ho, Op.operands, Call.operands])
  rw [hp] at hp1
  obtain ⟨us, hfv, hul, hur⟩ := (show Rep C.P S w [] _ (.bm f cs) from hp1).bm_inv
  have hcame := came0 (args := #[]) (a := a) (ev := ev) (xs := []) (T := T) (b := false) (hm.grow hk) RL.nil (fun y hy => by simp at hy)
  have hcaps : RL (AggOK C.P (lent false S bss) w' (insT []) []) [Value.agg us.toArray] [.agg cs] := RL.cons ⟨us.toArray, rfl, hul, fun i u x h1 h2 => by
    have h3 := (((hur i u x h1 h2).kept hk (fun _ _ _ => trivial) (by simp)).mono (S' := lent false S bss) fun k _ hk => .inl hk)
    exact h3.ref⟩ RL.nil
  have hc := hsp w' (lent false S bss) [] [] [.agg us.toArray] { hcame with args := hcaps }
  have hrun : (execOp a.eval o).run C.P w' = .ok (.enter f #[.agg us.toArray]) w' := by
    simp only [execOp, ho, resolve, hfv, Deferred.ofValue, Sem.run_bind, Sem.run_pure, Result.andThen_ok, invoke]
    simpa using hf _ w'
  unfold Oper.quietAt
  rw [hrun]
  refine ⟨rfl, hc.mono ?_⟩
  rintro e w'' ⟨us, ys', outs, bsr, bss', rfl, went, rfl, rfl⟩
  have hk2 : Kept (fun _ => True) w' w'' := went.kept.mono fun k _ _ ⟨r, bs, h, _⟩ => by simp at h
  refine ⟨?_, hk.trans hk2⟩
  match us, went.nu with
  | [u], _ =>
    have hr := went.res 0 u (.v y) (bsr[0]'(by rw [went.nr]; simp)) rfl rfl (List.getElem?_eq_getElem _)
    rcases hr with h | ⟨_, h⟩
    · rw [retV, h.v_inv.1]
    rw [retV, (show Rep C.P _ w'' [] u (.v y) from h).v_inv.1]
/-- A call of a function value with several results. -/
theorem op_valS {f : FuncId} {p : Operand} {args : Array Operand} {ts : Array TypeId} {b : Bool} {xs ys : List AV} (ho : o.op = .call { callee := .value p, args := args, argTypes := ts }) (hp : ev p = .v (.func (.func f) #[] #[])) (hf : Enters C.P f) (hsp : Fn C.P f [] xs ys []) (hv : RL (View T b) (args.toList.map ev) xs)
    (hn : ys.all nrefA = true) (hsol : b = true → ∀ y ∈ ys, SolidA C.P y) {x : AV} {T' : Sl} (hx : packR (unp ys T).1 = x) (hT : (unp ys T).2 = T') : OpJ C o ev T x T' := by
  intro a w S vals bss hm h K hK Q
  have hargs : ∀ y ∈ args, TmpOK C.P S w T vals (a.eval y) (ev y) := fun y hy => h y (by simp [ho, Op.operands, Call.operands]; exact .inr hy)
  have hfv : a.eval p = .func (.func f) #[] #[] := by
    have := h p (by simp [ho, Op.operands, Call.operands])
    rw [hp] at this
    exact (show Rep C.P S w [] _ _ from this).v_inv.1
  have hc := hsp w (lent b S bss) [] [] _ (came0 hm hv hargs)
  have hrun : (execOp a.eval o).run C.P w = .ok (.enter f (args.toList.map a.eval).toArray) w := by
    have e1 : (args.map a.eval) = (args.toList.map a.eval).toArray := by apply Array.toList_inj.1; simp
    simp only [execOp, ho, resolve, hfv, Deferred.ofValue, Sem.run_bind, Sem.run_pure, Result.andThen_ok, invoke]
    rw [← e1]
    simpa using hf _ w
  unfold Oper.wp
  rw [hrun, Oper.upon_enter]
  refine hc.mono ?_
  rintro e w' ⟨us, ys', outs, bsr, bss', rfl, went, rfl, rfl⟩
  simp only
  have hb0 : bss' = [] := List.eq_nil_of_length_eq_zero went.nb
  subst hb0
  have hk : Kept (fun _ => True) w w' := went.kept.mono fun k _ _ ⟨r, bs, h, _⟩ => by simp at h
  have hown : Own2 bsr := by have := went.own; rwa [List.append_nil] at this
  have hmine : ∀ q, InL bsr q → w.heap.size ≤ q := fun q hq => by
    have := went.mine q (by rw [List.append_nil]; exact hq)
    exact this.resolve_right fun ⟨r, bs, h, _⟩ => by simp at h
  have hS2 : ∀ k, S k → S k ∨ (w.heap.size ≤ k ∧ k < w'.heap.size ∧ ¬ InL bsr k) := fun k h => .inl h
  have hm1 := (hm.grow hk).more (S' := fun k => S k ∨ (w.heap.size ≤ k ∧ k < w'.heap.size ∧ ¬ InL bsr k)) hS2 fun k h => by
    rcases h with h | ⟨h1, h2, h3⟩
    · exact .inl h
    refine .inr ⟨.inr (.inr (by have := hm.kept.size; omega)), h2, fun ⟨r, bs, q1, q2⟩ => ?_⟩
    have := hm.blt q1 k q2; omega
  have hf1 : Follows C.P S w T vals (fun k => S k ∨ (w.heap.size ≤ k ∧ k < w'.heap.size ∧ ¬ InL bsr k)) w' T vals := Follows.kept hk (fun _ _ _ => trivial) hS2
  have hAf : ∀ k, After (lent b S bss) w w' [] (bsr ++ []) k → (S k ∨ (w.heap.size ≤ k ∧ k < w'.heap.size ∧ ¬ InL bsr k)) ∨ (b = true ∧ InL bss k) := fun k h => by
    rcases h with h | ⟨h1, h2, h3⟩
    · rcases h with h | h
      · exact .inl (.inl h)
      exact .inr h
    rcases h1 with h1 | ⟨r, bs, h, _⟩
    · rw [List.append_nil] at h3; exact .inl (.inr ⟨h1, h2, h3⟩)
    simp at h
  obtain ⟨vals', bss'', g1, g2, g3⟩ := unp_ok ys' us bsr T vals bss hm1 went.nu went.nr (fun i u y bs q1 q2 q3 => by
    have hny : nrefA y = true := List.all_eq_true.1 hn y (List.mem_of_getElem? q2)
    cases b with
    | false =>
      have hA : ∀ k, After (lent false S bss) w w' [] (bsr ++ []) k → S k ∨ (w.heap.size ≤ k ∧ k < w'.heap.size ∧ ¬ InL bsr k) := fun k h => (hAf k h).resolve_right (by simp)
      rcases went.res i u y bs q1 q2 q3 with h | ⟨h1, h2⟩
      · exact .inl (h.mono fun k _ => hA k)
      exact .inr ⟨h1, hny, T, vals, h2.nref hny hA⟩
    | true =>
      have hs := hsol rfl y (List.mem_of_getElem? q2)
      rcases went.res i u y bs q1 q2 q3 with h | ⟨h1, h2⟩
      · left
        cases y with
        | agg cs => exact absurd rfl (h.plain cs).1
        | _ => exact hs _ _ _ _ _ h
      · refine .inr ⟨h1, hny, T, vals, ?_⟩
        cases y with
        | any => trivial
        | agg cs =>
          obtain ⟨us', e, r⟩ := h2
          simp only [nrefA, List.all_eq_true] at hny
          refine ⟨us', e, r.1, fun i u x hu hx => ?_⟩
          have h3 := r.2 i u x hu hx
          have h4 := hny x (List.mem_of_getElem? hx)
          have h5 := hs x (List.mem_of_getElem? hx)
          cases x with
          | sl => cases h4
          | ptr => cases h4
          | mp => cases h4
          | nm => exact h3
          | byt => exact h3
          | om => exact h3
          | _ => exact h5 _ _ _ _ _ h3
        | sl => cases hny
        | ptr => cases hny
        | mp => cases hny
        | tup => cases hny
        | nm => exact h2
        | byt => exact h2
        | om => exact h2
        | _ => simp only [AggOK] at h2 ⊢; exact hs _ _ _ _ _ h2) hown (fun q hq => by
      have hge := hmine q hq
      refine ⟨fun ⟨r, bs, q1, q2⟩ => by have := hm.blt q1 q q2; omega, fun h => ?_, .inr (by have := hm.kept.size; omega)⟩
      rcases h with h | h
      · have := hm.lt q h; omega
      exact h.2.2 hq)
  subst hT
  refine hK _ _ _ _ _ g1 (fun u x h => g2 u x (hf1 u x h)) ?_
  subst hx
  match us, hz : (unp ys' T).1, g3 with
  | [], zs, r =>
    have : zs = [] := List.eq_nil_of_length_eq_zero r.1.symm
    subst this
    exact ⟨#[], rfl, RL.nil⟩
  | [u], zs, r =>
    obtain ⟨z, rfl⟩ : ∃ z, zs = [z] := by
      match zs, r.1 with
      | [z], _ => exact ⟨z, rfl⟩
    exact (r.2 0 u z rfl rfl).tmp
  | u :: u2 :: us, zs, r =>
    obtain ⟨z1, z2, zs', rfl⟩ : ∃ z1 z2 zs', zs = z1 :: z2 :: zs' := by
      match zs, r.1 with
      | z1 :: z2 :: zs', _ => exact ⟨z1, z2, zs', rfl⟩
    exact ⟨_, rfl, by simpa using r⟩
end
end Go.Proofs.Ytdnofpggdddimaa
namespace Go.Proofs.Ytdnofpggdddimaa
open Go.RowKit
set_option linter.unusedSimpArgs false
set_option linter.unusedVariables false
theorem sz2 : sizeIs Try.prog 2 1 := by unfold sizeIs; kernel_rfl
theorem sz3 : sizeIs Try.prog 3 1 := by unfold sizeIs; kernel_rfl
theorem ag3 : aggB Try.prog 3 = some false := by kernel_rfl
theorem ze3 : zeroIs Try.prog 3 (.int .i64 0) 1 8 := ⟨by kernel_rfl, rfl, by simp [Value.cells, Value.oneCell']⟩
theorem sz4 : sizeIs Try.prog 4 1 := by unfold sizeIs; kernel_rfl
theorem ag4 : aggB Try.prog 4 = some false := by kernel_rfl
theorem sz9 : sizeIs Try.prog 9 1 := by unfold sizeIs; kernel_rfl
theorem ag9 : aggB Try.prog 9 = some false := by kernel_rfl
theorem ze9 : zeroIs Try.prog 9 (.string ⟨#[]⟩) 1 16 := ⟨by kernel_rfl, rfl, by simp [Value.cells, Value.oneCell']⟩
theorem sz22 : sizeIs Try.prog 22 1 := by unfold sizeIs; kernel_rfl
theorem ag22 : aggB Try.prog 22 = some false := by kernel_rfl
theorem sz23 : sizeIs Try.prog 23 1 := by unfold sizeIs; kernel_rfl
theorem ag23 : aggB Try.prog 23 = some false := by kernel_rfl
theorem sz24 : sizeIs Try.prog 24 1 := by unfold sizeIs; kernel_rfl
theorem ag24 : aggB Try.prog 24 = some false := by kernel_rfl
theorem sz26 : sizeIs Try.prog 26 7 := by unfold sizeIs; kernel_rfl
theorem ag26 : aggB Try.prog 26 = some true := by kernel_rfl
theorem ze26 : zeroIs Try.prog 26 (.agg #[.int .i64 0, .int .i64 0, .int .i64 0, .bool false, .slice none 0 0, .slice none 0 0, .slice none 0 0]) 7 104 := ⟨by kernel_rfl, rfl, by simp [Value.cells, Value.oneCell']⟩
theorem fl26_0 : fieldIs Try.prog 26 0 0 3 := ⟨_, _, Try.underlying26, rfl, rfl, rfl⟩
theorem fl26_1 : fieldIs Try.prog 26 1 1 3 := ⟨_, _, Try.underlying26, rfl, rfl, rfl⟩
theorem fl26_2 : fieldIs Try.prog 26 2 2 3 := ⟨_, _, Try.underlying26, rfl, rfl, rfl⟩
theorem fl26_3 : fieldIs Try.prog 26 3 3 4 := ⟨_, _, Try.underlying26, rfl, rfl, rfl⟩
theorem fl26_4 : fieldIs Try.prog 26 4 4 22 := ⟨_, _, Try.underlying26, rfl, rfl, rfl⟩
theorem fl26_5 : fieldIs Try.prog 26 5 5 23 := ⟨_, _, Try.underlying26, rfl, rfl, rfl⟩
theorem fl26_6 : fieldIs Try.prog 26 6 6 24 := ⟨_, _, Try.underlying26, rfl, rfl, rfl⟩
theorem sz27 : sizeIs Try.prog 27 1 := by unfold sizeIs; kernel_rfl
theorem ag27 : aggB Try.prog 27 = some false := by kernel_rfl
theorem sz29 : sizeIs Try.prog 29 3 := by unfold sizeIs; kernel_rfl
theorem ag29 : aggB Try.prog 29 = some true := by kernel_rfl
theorem ze29 : zeroIs Try.prog 29 (.agg #[.int .i64 0, .int .i64 0, .int .i64 0]) 3 24 := ⟨by kernel_rfl, rfl, by simp [Value.cells, Value.oneCell']⟩
theorem fl29_0 : fieldIs Try.prog 29 0 0 3 := ⟨_, _, Try.underlying29, rfl, rfl, rfl⟩
theorem fl29_1 : fieldIs Try.prog 29 1 1 3 := ⟨_, _, Try.underlying29, rfl, rfl, rfl⟩
theorem fl29_2 : fieldIs Try.prog 29 2 2 3 := ⟨_, _, Try.underlying29, rfl, rfl, rfl⟩
theorem sz31 : sizeIs Try.prog 31 5 := by unfold sizeIs; kernel_rfl
theorem ag31 : aggB Try.prog 31 = some true := by kernel_rfl
theorem ze31 : zeroIs Try.prog 31 (.agg #[.int .i64 0, .int .i64 0, .int .i64 0, .int .i64 0, .int .i64 0]) 5 40 := ⟨by kernel_rfl, rfl, by simp [Value.cells, Value.oneCell']⟩
theorem fl31_0 : fieldIs Try.prog 31 0 0 29 := ⟨_, _, Try.underlying31, rfl, rfl, rfl⟩
theorem fl31_1 : fieldIs Try.prog 31 1 3 3 := ⟨_, _, Try.underlying31, rfl, rfl, rfl⟩
theorem fl31_2 : fieldIs Try.prog 31 2 4 3 := ⟨_, _, Try.underlying31, rfl, rfl, rfl⟩
theorem sz33 : sizeIs Try.prog 33 10 := by unfold sizeIs; kernel_rfl
theorem ag33 : aggB Try.prog 33 = some true := by kernel_rfl
theorem ze33 : zeroIs Try.prog 33 (.agg #[.int .i64 0, .int .i64 0, .int .i64 0, .int .i64 0, .int .i64 0, .int .i64 0, .int .i64 0, .int .i64 0, .int .i64 0, .int .i64 0]) 10 80 := ⟨by kernel_rfl, rfl, by simp [Value.cells, Value.oneCell']⟩
theorem fl33_0 : fieldIs Try.prog 33 0 0 3 := ⟨_, _, Try.underlying33, rfl, rfl, rfl⟩
theorem fl33_1 : fieldIs Try.prog 33 1 1 3 := ⟨_, _, Try.underlying33, rfl, rfl, rfl⟩
theorem fl33_2 : fieldIs Try.prog 33 2 2 3 := ⟨_, _, Try.underlying33, rfl, rfl, rfl⟩
theorem fl33_3 : fieldIs Try.prog 33 3 3 3 := ⟨_, _, Try.underlying33, rfl, rfl, rfl⟩
theorem fl33_4 : fieldIs Try.prog 33 4 4 3 := ⟨_, _, Try.underlying33, rfl, rfl, rfl⟩
theorem fl33_5 : fieldIs Try.prog 33 5 5 31 := ⟨_, _, Try.underlying33, rfl, rfl, rfl⟩
theorem sz39 : sizeIs Try.prog 39 1 := by unfold sizeIs; kernel_rfl
theorem ag39 : aggB Try.prog 39 = some false := by kernel_rfl
theorem ze39 : zeroIs Try.prog 39 (.int .i64 0) 1 8 := ⟨by kernel_rfl, rfl, by simp [Value.cells, Value.oneCell']⟩
theorem sz53 : sizeIs Try.prog 53 1 := by unfold sizeIs; kernel_rfl
theorem ag53 : aggB Try.prog 53 = some false := by kernel_rfl
theorem sz73 : sizeIs Try.prog 73 4 := by unfold sizeIs; kernel_rfl
theorem ag73 : aggB Try.prog 73 = some true := by kernel_rfl
theorem ze73 : zeroIs Try.prog 73 (.agg #[.string ⟨#[]⟩, .int .i64 0, .string ⟨#[]⟩, .int .i64 0]) 4 48 := ⟨by kernel_rfl, rfl, by simp [Value.cells, Value.oneCell']⟩
theorem fl73_0 : fieldIs Try.prog 73 0 0 9 := ⟨_, _, Try.underlying73, rfl, rfl, rfl⟩
theorem fl73_1 : fieldIs Try.prog 73 1 1 3 := ⟨_, _, Try.underlying73, rfl, rfl, rfl⟩
theorem fl73_2 : fieldIs Try.prog 73 2 2 9 := ⟨_, _, Try.underlying73, rfl, rfl, rfl⟩
theorem fl73_3 : fieldIs Try.prog 73 3 3 3 := ⟨_, _, Try.underlying73, rfl, rfl, rfl⟩
theorem sz75 : sizeIs Try.prog 75 9 := by unfold sizeIs; kernel_rfl
theorem ag75 : aggB Try.prog 75 = some true := by kernel_rfl
theorem ze75 : zeroIs Try.prog 75 (.agg #[.int .i64 0, .int .i64 0, .int .i64 0, .int .i64 0, .int .i64 0, .string ⟨#[]⟩, .int .i64 0, .string ⟨#[]⟩, .int .i64 0]) 9 88 := ⟨by kernel_rfl, rfl, by simp [Value.cells, Value.oneCell']⟩
theorem fl75_0 : fieldIs Try.prog 75 0 0 31 := ⟨_, _, Try.underlying75, rfl, rfl, rfl⟩
theorem fl75_1 : fieldIs Try.prog 75 1 5 73 := ⟨_, _, Try.underlying75, rfl, rfl, rfl⟩
theorem sz77 : sizeIs Try.prog 77 11 := by unfold sizeIs; kernel_rfl
theorem ag77 : aggB Try.prog 77 = some true := by kernel_rfl
theorem ze77 : zeroIs Try.prog 77 (.agg #[.int .i64 0, .string ⟨#[]⟩, .int .i64 0, .string ⟨#[]⟩, .int .i64 0, .int .i64 0, .int .i64 0, .int .i64 0, .int .i64 0, .int .i64 0, .slice none 0 0]) 11 120 := ⟨by kernel_rfl, rfl, by simp [Value.cells, Value.oneCell']⟩
theorem fl77_0 : fieldIs Try.prog 77 0 0 3 := ⟨_, _, Try.underlying77, rfl, rfl, rfl⟩
theorem fl77_1 : fieldIs Try.prog 77 1 1 73 := ⟨_, _, Try.underlying77, rfl, rfl, rfl⟩
theorem fl77_2 : fieldIs Try.prog 77 2 5 3 := ⟨_, _, Try.underlying77, rfl, rfl, rfl⟩
theorem fl77_3 : fieldIs Try.prog 77 3 6 3 := ⟨_, _, Try.underlying77, rfl, rfl, rfl⟩
theorem fl77_4 : fieldIs Try.prog 77 4 7 3 := ⟨_, _, Try.underlying77, rfl, rfl, rfl⟩
theorem fl77_5 : fieldIs Try.prog 77 5 8 3 := ⟨_, _, Try.underlying77, rfl, rfl, rfl⟩
theorem fl77_6 : fieldIs Try.prog 77 6 9 3 := ⟨_, _, Try.underlying77, rfl, rfl, rfl⟩
theorem fl77_7 : fieldIs Try.prog 77 7 10 53 := ⟨_, _, Try.underlying77, rfl, rfl, rfl⟩
theorem sz81 : sizeIs Try.prog 81 2 := by unfold sizeIs; kernel_rfl
theorem ze81 : zeroIs Try.prog 81 (.agg #[.slice none 0 0, .int .i64 0]) 2 32 := ⟨by kernel_rfl, rfl, by simp [Value.cells, Value.oneCell']⟩
theorem fl81_0 : fieldIs Try.prog 81 0 0 27 := ⟨_, _, Try.underlying81, rfl, rfl, rfl⟩
theorem fl81_1 : fieldIs Try.prog 81 1 1 3 := ⟨_, _, Try.underlying81, rfl, rfl, rfl⟩
theorem sz87 : sizeIs Try.prog 87 7 := by unfold sizeIs; kernel_rfl
theorem ag87 : aggB Try.prog 87 = some true := by kernel_rfl
theorem ze87 : zeroIs Try.prog 87 (.agg #[.int .i64 0, .int .i64 0, .int .i64 0, .bool false, .slice none 0 0, .slice none 0 0, .slice none 0 0]) 7 104 := ⟨by kernel_rfl, rfl, by simp [Value.cells, Value.oneCell']⟩
theorem fl87_0 : fieldIs Try.prog 87 0 0 3 := ⟨_, _, Try.underlying87, rfl, rfl, rfl⟩
theorem fl87_1 : fieldIs Try.prog 87 1 1 3 := ⟨_, _, Try.underlying87, rfl, rfl, rfl⟩
theorem fl87_2 : fieldIs Try.prog 87 2 2 3 := ⟨_, _, Try.underlying87, rfl, rfl, rfl⟩
theorem fl87_3 : fieldIs Try.prog 87 3 3 4 := ⟨_, _, Try.underlying87, rfl, rfl, rfl⟩
theorem fl87_4 : fieldIs Try.prog 87 4 4 22 := ⟨_, _, Try.underlying87, rfl, rfl, rfl⟩
theorem fl87_5 : fieldIs Try.prog 87 5 5 23 := ⟨_, _, Try.underlying87, rfl, rfl, rfl⟩
theorem fl87_6 : fieldIs Try.prog 87 6 6 24 := ⟨_, _, Try.underlying87, rfl, rfl, rfl⟩
theorem sz120 : sizeIs Try.prog 120 5 := by unfold sizeIs; kernel_rfl
theorem ag120 : aggB Try.prog 120 = some true := by kernel_rfl
theorem ze120 : zeroIs Try.prog 120 (.agg #[.string ⟨#[]⟩, .int .i64 0, .string ⟨#[]⟩, .int .i64 0, .int .i64 0]) 5 56 := ⟨by kernel_rfl, rfl, by simp [Value.cells, Value.oneCell']⟩
end Go.Proofs.Ytdnofpggdddimaa
namespace Go.Proofs.Ytdnofpggdddimaa
open Go.RowKit
set_option linter.unusedSimpArgs false
set_option linter.unusedVariables false
set_option maxRecDepth 100000
theorem mix : Try.prog.follows .mixedOrders = true := by kernel_rfl
theorem en10 : Enters Try.prog 10 := fun vs w => by kernel_rfl
theorem en11 : Enters Try.prog 11 := fun vs w => by kernel_rfl
theorem en12 : Enters Try.prog 12 := fun vs w => by kernel_rfl
theorem en13 : Enters Try.prog 13 := fun vs w => by kernel_rfl
theorem en14 : Enters Try.prog 14 := fun vs w => by kernel_rfl
theorem en15 : Enters Try.prog 15 := fun vs w => by kernel_rfl
theorem en16 : Enters Try.prog 16 := fun vs w => by kernel_rfl
theorem en17 : Enters Try.prog 17 := fun vs w => by kernel_rfl
theorem en18 : Enters Try.prog 18 := fun vs w => by kernel_rfl
theorem en19 : Enters Try.prog 19 := fun vs w => by kernel_rfl
theorem en20 : Enters Try.prog 20 := fun vs w => by kernel_rfl
theorem en21 : Enters Try.prog 21 := fun vs w => by kernel_rfl
theorem en22 : Enters Try.prog 22 := fun vs w => by kernel_rfl
theorem en23 : Enters Try.prog 23 := fun vs w => by kernel_rfl
theorem en24 : Enters Try.prog 24 := fun vs w => by kernel_rfl
theorem en25 : Enters Try.prog 25 := fun vs w => by kernel_rfl
theorem en26 : Enters Try.prog 26 := fun vs w => by kernel_rfl
theorem en27 : Enters Try.prog 27 := fun vs w => by kernel_rfl
theorem en28 : Enters Try.prog 28 := fun vs w => by kernel_rfl
theorem en30 : Enters Try.prog 30 := fun vs w => by kernel_rfl
theorem en32 : Enters Try.prog 32 := fun vs w => by kernel_rfl
theorem en33 : Enters Try.prog 33 := fun vs w => by kernel_rfl
theorem en36 : Enters Try.prog 36 := fun vs w => by kernel_rfl
theorem en38 : Enters Try.prog 38 := fun vs w => by kernel_rfl
theorem en39 : Enters Try.prog 39 := fun vs w => by kernel_rfl
theorem en40 : Enters Try.prog 40 := fun vs w => by kernel_rfl
theorem en41 : Enters Try.prog 41 := fun vs w => by kernel_rfl
theorem en42 : Enters Try.prog 42 := fun vs w => by kernel_rfl
theorem en43 : Enters Try.prog 43 := fun vs w => by kernel_rfl
theorem en44 : Enters Try.prog 44 := fun vs w => by kernel_rfl
theorem en45 : Enters Try.prog 45 := fun vs w => by kernel_rfl
theorem en46 : Enters Try.prog 46 := fun vs w => by kernel_rfl
theorem en47 : Enters Try.prog 47 := fun vs w => by kernel_rfl
theorem en48 : Enters Try.prog 48 := fun vs w => by kernel_rfl
theorem en49 : Enters Try.prog 49 := fun vs w => by kernel_rfl
theorem en50 : Enters Try.prog 50 := fun vs w => by kernel_rfl
theorem en51 : Enters Try.prog 51 := fun vs w => by kernel_rfl
theorem en52 : Enters Try.prog 52 := fun vs w => by kernel_rfl
theorem en53 : Enters Try.prog 53 := fun vs w => by kernel_rfl
theorem en54 : Enters Try.prog 54 := fun vs w => by kernel_rfl
theorem en55 : Enters Try.prog 55 := fun vs w => by kernel_rfl
theorem en56 : Enters Try.prog 56 := fun vs w => by kernel_rfl
theorem en57 : Enters Try.prog 57 := fun vs w => by kernel_rfl
theorem en58 : Enters Try.prog 58 := fun vs w => by kernel_rfl
theorem en59 : Enters Try.prog 59 := fun vs w => by kernel_rfl
theorem en60 : Enters Try.prog 60 := fun vs w => by kernel_rfl
theorem en61 : Enters Try.prog 61 := fun vs w => by kernel_rfl
theorem en62 : Enters Try.prog 62 := fun vs w => by kernel_rfl
theorem en63 : Enters Try.prog 63 := fun vs w => by kernel_rfl
theorem en64 : Enters Try.prog 64 := fun vs w => by kernel_rfl
theorem en65 : Enters Try.prog 65 := fun vs w => by kernel_rfl
theorem en66 : Enters Try.prog 66 := fun vs w => by kernel_rfl
theorem en67 : Enters Try.prog 67 := fun vs w => by kernel_rfl
theorem en68 : Enters Try.prog 68 := fun vs w => by kernel_rfl
theorem en69 : Enters Try.prog 69 := fun vs w => by kernel_rfl
theorem en70 : Enters Try.prog 70 := fun vs w => by kernel_rfl
theorem en71 : Enters Try.prog 71 := fun vs w => by kernel_rfl
theorem en72 : Enters Try.prog 72 := fun vs w => by kernel_rfl
theorem en73 : Enters Try.prog 73 := fun vs w => by kernel_rfl
theorem en74 : Enters Try.prog 74 := fun vs w => by kernel_rfl
theorem en75 : Enters Try.prog 75 := fun vs w => by kernel_rfl
theorem en76 : Enters Try.prog 76 := fun vs w => by kernel_rfl
theorem en77 : Enters Try.prog 77 := fun vs w => by kernel_rfl
theorem en78 : Enters Try.prog 78 := fun vs w => by kernel_rfl
theorem en79 : Enters Try.prog 79 := fun vs w => by kernel_rfl
theorem en80 : Enters Try.prog 80 := fun vs w => by kernel_rfl
theorem en81 : Enters Try.prog 81 := fun vs w => by kernel_rfl
theorem en82 : Enters Try.prog 82 := fun vs w => by kernel_rfl
theorem en83 : Enters Try.prog 83 := fun vs w => by kernel_rfl
theorem en84 : Enters Try.prog 84 := fun vs w => by kernel_rfl
theorem en85 : Enters Try.prog 85 := fun vs w => by kernel_rfl
theorem en86 : Enters Try.prog 86 := fun vs w => by kernel_rfl
theorem en87 : Enters Try.prog 87 := fun vs w => by kernel_rfl
theorem en88 : Enters Try.prog 88 := fun vs w => by kernel_rfl
theorem en89 : Enters Try.prog 89 := fun vs w => by kernel_rfl
theorem en90 : Enters Try.prog 90 := fun vs w => by kernel_rfl
theorem en91 : Enters Try.prog 91 := fun vs w => by kernel_rfl
theorem en92 : Enters Try.prog 92 := fun vs w => by kernel_rfl
theorem en93 : Enters Try.prog 93 := fun vs w => by kernel_rfl
theorem en94 : Enters Try.prog 94 := fun vs w => by kernel_rfl
theorem en95 : Enters Try.prog 95 := fun vs w => by kernel_rfl
theorem en96 : Enters Try.prog 96 := fun vs w => by kernel_rfl
theorem en97 : Enters Try.prog 97 := fun vs w => by kernel_rfl
theorem en98 : Enters Try.prog 98 := fun vs w => by kernel_rfl
theorem en99 : Enters Try.prog 99 := fun vs w => by kernel_rfl
theorem en100 : Enters Try.prog 100 := fun vs w => by kernel_rfl
theorem en101 : Enters Try.prog 101 := fun vs w => by kernel_rfl
theorem en102 : Enters Try.prog 102 := fun vs w => by kernel_rfl
theorem en103 : Enters Try.prog 103 := fun vs w => by kernel_rfl
end Go.Proofs.Ytdnofpggdddimaa
namespace Go.Proofs.Ytdnofpggdddimaa
open Go.RowKit
set_option linter.unusedSimpArgs false
set_option linter.unusedVariables false
set_option maxRecDepth 100000
theorem laidOutP : laidOutB Try.prog = true := by kernel_rfl
theorem wide29 : (match Try.prog.underlying 29 with | some (.array _ _) | some (.struct _) => true | _ => false) = true := by kernel_rfl
theorem kd29 : Go.Maps.Keyed Try.prog 29 := Go.Maps.Keyed.of_law (deep_law_laid laidOutP (m := 2) (by omega) (of_decide_eq_true (by kernel_rfl)) (by kernel_rfl) wide29)
theorem wide120 : (match Try.prog.underlying 120 with | some (.array _ _) | some (.struct _) => true | _ => false) = true := by kernel_rfl
theorem kd120 : Go.Maps.Keyed Try.prog 120 := Go.Maps.Keyed.of_law (deep_law_laid laidOutP (m := 3) (by omega) (of_decide_eq_true (by kernel_rfl)) (by kernel_rfl) wide120)
theorem kt29 : Try.prog.keyType 29 = true := by kernel_rfl
theorem kt120 : Try.prog.keyType 120 = true := by kernel_rfl
theorem tsz : ∃ n, Try.prog.types.size = n + 5 := ⟨Try.prog.types.size - 5, by have : 5 ≤ Try.prog.types.size := of_decide_eq_true (by kernel_rfl); omega⟩
theorem cl3 : Try.prog.cellsOf 3 = 1 := by kernel_rfl
theorem cl9 : Try.prog.cellsOf 9 = 1 := by kernel_rfl
theorem cl73 : Try.prog.cellsOf 73 = 4 := by kernel_rfl
theorem cl29 : Try.prog.cellsOf 29 = 3 := by kernel_rfl
theorem cl120 : Try.prog.cellsOf 120 = 5 := by kernel_rfl
theorem kl_int {d : Nat} {n : Int} (h : (Lit.int .i64 n).wf = true) : Try.prog.keyLits (d + 1) 3 [.int .i64 n] = some [.int .i64 n] := by
  unfold Program.keyLits
  rw [Try.underlying3]
  simp [h]
theorem kl_str {d : Nat} {s : ByteArray} (h : s.size ≤ maxLen) : Try.prog.keyLits (d + 1) 9 [.string s] = some [.string s.data.toList] := by
  unfold Program.keyLits
  rw [Try.underlying9]
  simp [h]
theorem kl_29 {d : Nat} {a b c : Int} (h1 : (Lit.int .i64 a).wf = true) (h2 : (Lit.int .i64 b).wf = true) (h3 : (Lit.int .i64 c).wf = true) : Try.prog.keyLits (d + 2) 29 [.int .i64 a, .int .i64 b, .int .i64 c] = some [.int .i64 a, .int .i64 b, .int .i64 c] := by
  show Try.prog.keyLits ((d + 1) + 1) 29 _ = _
  unfold Program.keyLits
  rw [Try.underlying29]
  simp [cl29, cl3, kl_int h1, kl_int h2, kl_int h3]
theorem kl_73 {d : Nat} {s t : ByteArray} {b c : Int} (h1 : s.size ≤ maxLen) (h2 : (Lit.int .i64 b).wf = true) (h3 : t.size ≤ maxLen) (h4 : (Lit.int .i64 c).wf = true) : Try.prog.keyLits (d + 2) 73 [.string s, .int .i64 b, .string t, .int .i64 c] = some [.string s.data.toList, .int .i64 b, .string t.data.toList, .int .i64 c] := by
  show Try.prog.keyLits ((d + 1) + 1) 73 _ = _
  unfold Program.keyLits
  rw [Try.underlying73]
  simp [cl73, cl3, cl9, kl_str h1, kl_int h2, kl_str h3, kl_int h4]
theorem key29 {a b c : Int} (h1 : (Lit.int .i64 a).wf = true) (h2 : (Lit.int .i64 b).wf = true) (h3 : (Lit.int .i64 c).wf = true) : ∃ kl, keyOf Try.prog 29 (.agg #[.int .i64 a, .int .i64 b, .int .i64 c]) = some kl := by
  obtain ⟨n, hn⟩ := tsz
  unfold keyOf
  rw [Try.underlying29]
  simp [kt29, Value.formed, Try.underlying29, cl29, hn, Value.cells, kl_29 h1 h2 h3]
theorem key120 {s t : ByteArray} {b c d : Int} (h1 : s.size ≤ maxLen) (h2 : (Lit.int .i64 b).wf = true) (h3 : t.size ≤ maxLen) (h4 : (Lit.int .i64 c).wf = true) (h5 : (Lit.int .i64 d).wf = true) : ∃ kl, keyOf Try.prog 120 (.agg #[.string s, .int .i64 b, .string t, .int .i64 c, .int .i64 d]) = some kl := by
  obtain ⟨n, hn⟩ := tsz
  have e : Try.prog.keyLits (n + 6) 120 [.string s, .int .i64 b, .string t, .int .i64 c, .int .i64 d] = some [.string s.data.toList, .int .i64 b, .string t.data.toList, .int .i64 c, .int .i64 d] := by
    show Try.prog.keyLits ((n + 5) + 1) 120 _ = _
    unfold Program.keyLits
    rw [Try.underlying120]
    simp [cl120, cl73, cl3, kl_73 h1 h2 h3 h4, kl_int h5]
  unfold keyOf
  rw [Try.underlying120]
  simp [kt120, Value.formed, Try.underlying120, cl120, hn, Value.cells, e]
theorem wf64 {n : Int} (h : -9223372036854775808 ≤ n ∧ n ≤ 9223372036854775807) : (Lit.int .i64 n).wf = true := by
  have e1 : IntKind.i64.min = -9223372036854775808 := by decide
  have e2 : IntKind.i64.max = 9223372036854775807 := by decide
  unfold Lit.wf
  simp [e1, e2]
  omega
theorem zf4 : ∀ w, (zeroValue 4).run Try.prog w = .ok (.bool false) w := fun w => by kernel_rfl
end Go.Proofs.Ytdnofpggdddimaa
namespace Go.Proofs.Ytdnofpggdddimaa
open Go.RowKit
set_option linter.unusedSimpArgs false
set_option linter.unusedVariables false
set_option maxRecDepth 100000
def inB (n lo hi : Int) : Bool := decide (n ≥ lo) && decide (n ≤ hi)
def upB (c : UInt8) : Bool := decide ((c.toNat : Int) ≥ 65) && decide ((c.toNat : Int) ≤ 90)
def dgB (c : UInt8) : Bool := decide ((c.toNat : Int) ≥ 48) && decide ((c.toNat : Int) ≤ 57)
theorem C101 {n lo hi : Int} : Fn Try.prog 101 [] [.v (.int .i64 n), .v (.int .i64 lo), .v (.int .i64 hi)] [.v (.bool (inB n lo hi))] [] := by
  refine Spec.body Try.func101 rfl Try.ntmps101 (by simp) rfl ?_; intro S0 own0 v0 w0
  (refine AW.seq_k ?_; intro K hK)
  refine AW.region ?_
  refine awP (op_assign rfl rfl) ?_; (simp only [nA, Nat.reduceBEq, Nat.reduceEqDiff, ↓reduceIte, Nat.reduceAdd, Nat.reduceSub])
  refine AWL.nil ?_
  (refine hK _ ?_; clear hK K; (simp only [nA, Nat.reduceBEq, Nat.reduceEqDiff, ↓reduceIte, Nat.reduceAdd, Nat.reduceSub]))
  (refine AW.seq_k ?_; intro K hK)
  refine AW.region (AWL.quiet ?_)
  refine aqP (op_move rfl rfl) ?_; (simp only [nA, ↓reduceIte])
  refine aqP (op_move rfl rfl) ?_; (simp only [nA, ↓reduceIte])
  refine aqP (op_geq rfl rfl rfl) ?_; (simp only [nA, Nat.reduceBEq, Nat.reduceEqDiff, ↓reduceIte, Nat.reduceAdd, Nat.reduceSub])
  refine aqP (op_move rfl rfl) ?_; (simp only [nA])
  refine' aqAnd' [_, _, _] [11,12,13] rfl rfl rfl rfl rfl rfl rfl rfl rfl rfl rfl rfl (fun hb => ?_) ?_; rotate_left
  ·
   (try simp only [hcS] at hb)
   refine aqP (op_move rfl rfl) ?_; (simp only [nA, ↓reduceIte])
   refine aqP (op_move rfl rfl) ?_; (simp only [nA, ↓reduceIte])
   refine aqP (op_leq rfl rfl rfl) ?_; (simp only [nA, Nat.reduceBEq, Nat.reduceEqDiff, ↓reduceIte, Nat.reduceAdd, Nat.reduceSub])
   (refine aqSeg rfl rfl rfl ?_; repeat (first | exact fun _ _ => rfl | refine upd_out rfl ?_))
  refine aqP (op_assign rfl rfl) ?_; (simp only [nA])
  refine AQ.nil ?_
  (refine hK _ ?_; clear hK K; (skip))
  skip
  refine AW.ret ?_; exact RQ.of0 rfl (.tmp (bl rfl) rfl rfl .nil)
theorem C98 {c : UInt8} : Fn Try.prog 98 [] [.v (.int .u8 c.toNat)] [.v (.bool (upB c))] [] := by
  refine Spec.body Try.func98 rfl Try.ntmps98 (by simp) rfl ?_; intro S0 own0 v0 w0
  (refine AW.seq_k ?_; intro K hK)
  refine AW.region ?_
  refine awP (op_assign rfl rfl) ?_; (simp only [nA, Nat.reduceBEq, Nat.reduceEqDiff, ↓reduceIte, Nat.reduceAdd, Nat.reduceSub])
  refine AWL.nil ?_
  (refine hK _ ?_; clear hK K; (simp only [nA, Nat.reduceBEq, Nat.reduceEqDiff, ↓reduceIte, Nat.reduceAdd, Nat.reduceSub]))
  (refine AW.seq_k ?_; intro K hK)
  refine AW.region (AWL.quiet ?_)
  refine aqP (op_move rfl rfl) ?_; (simp only [nA, ↓reduceIte])
  refine aqP (op_geq rfl rfl rfl) ?_; (simp only [nA, Nat.reduceBEq, Nat.reduceEqDiff, ↓reduceIte, Nat.reduceAdd, Nat.reduceSub])
  refine aqP (op_move rfl rfl) ?_; (simp only [nA])
  refine' aqAnd' [_, _] [6,7] rfl rfl rfl rfl rfl rfl rfl rfl rfl rfl rfl rfl (fun hb => ?_) ?_; rotate_left
  ·
   (try simp only [hcS] at hb)
   refine aqP (op_move rfl rfl) ?_; (simp only [nA, ↓reduceIte])
   refine aqP (op_leq rfl rfl rfl) ?_; (simp only [nA, Nat.reduceBEq, Nat.reduceEqDiff, ↓reduceIte, Nat.reduceAdd, Nat.reduceSub])
   (refine aqSeg rfl rfl rfl ?_; repeat (first | exact fun _ _ => rfl | refine upd_out rfl ?_))
  refine aqP (op_assign rfl rfl) ?_; (simp only [nA])
  refine AQ.nil ?_
  (refine hK _ ?_; clear hK K; (skip))
  skip
  refine AW.ret ?_; exact RQ.of0 rfl (.tmp (bl rfl) rfl rfl .nil)
theorem C99 {c : UInt8} : Fn Try.prog 99 [] [.v (.int .u8 c.toNat)] [.v (.bool (dgB c))] [] := by
  refine Spec.body Try.func99 rfl Try.ntmps99 (by simp) rfl ?_; intro S0 own0 v0 w0
  (refine AW.seq_k ?_; intro K hK)
  refine AW.region ?_
  refine awP (op_assign rfl rfl) ?_; (simp only [nA, Nat.reduceBEq, Nat.reduceEqDiff, ↓reduceIte, Nat.reduceAdd, Nat.reduceSub])
  refine AWL.nil ?_
  (refine hK _ ?_; clear hK K; (simp only [nA, Nat.reduceBEq, Nat.reduceEqDiff, ↓reduceIte, Nat.reduceAdd, Nat.reduceSub]))
  (refine AW.seq_k ?_; intro K hK)
  refine AW.region (AWL.quiet ?_)
  refine aqP (op_move rfl rfl) ?_; (simp only [nA, ↓reduceIte])
  refine aqP (op_geq rfl rfl rfl) ?_; (simp only [nA, Nat.reduceBEq, Nat.reduceEqDiff, ↓reduceIte, Nat.reduceAdd, Nat.reduceSub])
  refine aqP (op_move rfl rfl) ?_; (simp only [nA])
  refine' aqAnd' [_, _] [6,7] rfl rfl rfl rfl rfl rfl rfl rfl rfl rfl rfl rfl (fun hb => ?_) ?_; rotate_left
  ·
   (try simp only [hcS] at hb)
   refine aqP (op_move rfl rfl) ?_; (simp only [nA, ↓reduceIte])
   refine aqP (op_leq rfl rfl rfl) ?_; (simp only [nA, Nat.reduceBEq, Nat.reduceEqDiff, ↓reduceIte, Nat.reduceAdd, Nat.reduceSub])
   (refine aqSeg rfl rfl rfl ?_; repeat (first | exact fun _ _ => rfl | refine upd_out rfl ?_))
  refine aqP (op_assign rfl rfl) ?_; (simp only [nA])
  refine AQ.nil ?_
  (refine hK _ ?_; clear hK K; (skip))
  skip
  refine AW.ret ?_; exact RQ.of0 rfl (.tmp (bl rfl) rfl rfl .nil)
end Go.Proofs.Ytdnofpggdddimaa
namespace Go.Proofs.Ytdnofpggdddimaa
open Go.RowKit
set_option linter.unusedSimpArgs false
set_option linter.unusedVariables false
set_option maxRecDepth 100000
def chr (s : ByteArray) (i : Nat) : UInt8 := s.data.toList.getD i 0
theorem size_len (s : ByteArray) : s.data.toList.length = s.size := by show s.data.toList.length = s.data.size; simp
theorem get_chr {s : ByteArray} {i : Nat} (h : i < s.size) : s.data.toList[i]? = some (chr s i) := by
  unfold chr
  rw [List.getD_eq_getElem?_getD, List.getElem?_eq_getElem (by rw [size_len]; exact h)]
  rfl
theorem take_all {s : ByteArray} {f : UInt8 → Bool} {i : Nat} (h : i < s.size) : (s.data.toList.take (i + 1)).all f = ((s.data.toList.take i).all f && f (chr s i)) := by
  have h2 := get_chr h
  rw [List.take_add_one, h2]
  simp
theorem all_take {s : ByteArray} {f : UInt8 → Bool} {i : Nat} (h : ¬ i < s.size) : (s.data.toList.take i).all f = s.data.toList.all f := by
  rw [List.take_of_length_le (by rw [size_len]; omega)]
theorem all_no {s : ByteArray} {f : UInt8 → Bool} {i : Nat} (h : i < s.size) (hf : f (chr s i) = false) : s.data.toList.all f = false := by
  rw [List.all_eq_false]
  exact ⟨chr s i, List.mem_of_getElem? (get_chr h), by rw [hf]; simp⟩
theorem C100 {s : ByteArray} (hs : s.size ≤ 1000000) : Fn Try.prog 100 [] [.v (.string s), .v (.func (.func 98) #[] #[])] [.v (.bool (s.data.toList.all upB))] [] := by
  refine Spec.body Try.func100 rfl Try.ntmps100 (by simp) rfl ?_; intro S0 own0 v0 w0
  (refine AW.seq_k ?_; intro K hK)
  refine AW.region ?_
  refine awP (op_assign rfl rfl) ?_; (simp only [nA, Nat.reduceBEq, Nat.reduceEqDiff, ↓reduceIte, Nat.reduceAdd, Nat.reduceSub])
  refine AWL.nil ?_
  (refine hK _ ?_; clear hK K; (simp only [nA, Nat.reduceBEq, Nat.reduceEqDiff, ↓reduceIte, Nat.reduceAdd, Nat.reduceSub]))
  (refine AW.seq_k ?_; intro K hK)
  (refine AW.seq_k ?_; intro K hK)
  refine AW.region ?_
  refine awP (op_move rfl rfl) ?_; (simp only [nA, ↓reduceIte])
  (refine awP (op_len_str rfl rfl Try.underlying9) ?_); (simp only [nA, Nat.reduceBEq, Nat.reduceEqDiff, ↓reduceIte, Nat.reduceAdd, Nat.reduceSub])
  refine awP (op_move rfl rfl) ?_; (simp only [nA, Nat.reduceBEq, Nat.reduceEqDiff, ↓reduceIte, Nat.reduceAdd, Nat.reduceSub])
  refine AWL.nil ?_
  (refine hK _ ?_; clear hK K; (skip))
  refine AW.block ?_
  refine AW.loopI (fun i => [(0, .v (.string s)), (1, .v (.func (.func 98) #[] #[])), (7, .v (.int .i64 s.size)), (8, .v (.int .i64 (i : Nat)))]) (fun _ => ⟨[], 1⟩) (fun i => i ≤ s.size ∧ (s.data.toList.take i).all upB = true) (fun i => s.size - i) 0 (by simp) ⟨rfl, rfl, rfl, rfl, trivial⟩ rfl ?_; intro i ρ hi; simp only [updL]
  (refine AW.seq_k ?_; intro K hK)
  refine AW.region ?_
  refine awP (op_lss rfl rfl rfl) ?_; (simp only [nA, Nat.reduceBEq, Nat.reduceEqDiff, ↓reduceIte, Nat.reduceAdd, Nat.reduceSub])
  refine AWL.nil ?_
  (refine hK _ ?_; clear hK K; (skip))
  (refine AW.seq_k ?_; intro K hK)
  refine AW.cond rfl rfl rfl (fun hc => ?_) (fun hc => ?_)
  ·
   (try simp only [hcS] at hc); have hc1 := hc
   refine AW.skip ?_
   (refine hK _ ?_; clear hK K; (skip))
   (refine AW.seq_k ?_; intro K hK)
   refine AW.block ?_
   (refine AW.seq_k ?_; intro K hK)
   refine AW.region ?_
   refine awP (op_move rfl rfl) ?_; (simp only [nA, ↓reduceIte])
   refine awP (op_assign rfl rfl) ?_; (simp only [nA])
   refine AWL.nil ?_
   (refine hK _ ?_; clear hK K; (skip))
   (refine AW.seq_k ?_; intro K hK)
   refine AW.region ?_
   refine awP (op_move rfl rfl) ?_; (simp only [nA, ↓reduceIte])
   refine awP (op_move rfl rfl) ?_; (simp only [nA, ↓reduceIte])
   refine awP (op_move rfl rfl) ?_; (simp only [nA, ↓reduceIte])
   refine awP (op_ix_str _ rfl rfl rfl Try.underlying9 rfl (get_chr (by omega))) ?_; (simp only [nA, Nat.reduceBEq, Nat.reduceEqDiff, ↓reduceIte, Nat.reduceAdd, Nat.reduceSub])
   refine awJ (OpQ.j (op_valQ (b := true) rfl rfl en98 C98 (RL.cons (by exact View.same rfl) (RL.nil)) rfl)) ?_; (simp only [nA, Nat.reduceBEq, Nat.reduceEqDiff, ↓reduceIte, Nat.reduceAdd, Nat.reduceSub])
   refine awP (op_not rfl rfl rfl) ?_; (simp only [nA, Nat.reduceBEq, Nat.reduceEqDiff, ↓reduceIte, Nat.reduceAdd, Nat.reduceSub])
   refine AWL.nil ?_
   (refine hK _ ?_; clear hK K; (skip))
   refine AW.cond rfl rfl rfl (fun hc => ?_) (fun hc => ?_)
   ·
    (try simp only [hcS] at hc); have hc2 := hc
    (refine AW.seq_k ?_; intro K hK)
    refine AW.region ?_
    refine awP (op_assign rfl rfl) ?_; (simp only [nA, Nat.reduceBEq, Nat.reduceEqDiff, ↓reduceIte, Nat.reduceAdd, Nat.reduceSub])
    refine AWL.nil ?_
    (refine hK _ ?_; clear hK K; (skip))
    skip
    refine AW.ret ?_; (simp only [thenE, inBlk, Nat.reduceEqDiff, ↓reduceIte]); rw [all_no (i := i) (by omega) hc]; exact RQ.of0 rfl (.tmp (bl rfl) rfl rfl .nil)
   (try simp only [hcS] at hc); have hc2 := hc
   refine AW.skip ?_
   simp only [thenE, inBlk, Nat.reduceEqDiff, ↓reduceIte]
   (refine hK _ ?_; clear hK K; (skip))
   refine AW.region ?_
   (refine awP (op_addi rfl rfl rfl (by omega)) ?_); (simp only [nA, Nat.reduceBEq, Nat.reduceEqDiff, ↓reduceIte, Nat.reduceAdd, Nat.reduceSub])
   refine awP (op_move rfl rfl) ?_; (simp only [nA])
   skip
   refine AWL.nil ?_
   refine ⟨i + 1, ⟨by omega, by rw [take_all (by omega), hi.2]; simpa using hc⟩, by omega, ⟨rfl, rfl, rfl, rfl, trivial⟩, rfl, rfl⟩
  (try simp only [hcS] at hc); have hc1 := hc
  refine AW.exit ?_; (simp only [thenE, inBlk, Nat.reduceEqDiff, ↓reduceIte])
  clear hK K
  (refine hK _ ?_; clear hK K; (skip))
  (refine AW.seq_k ?_; intro K hK)
  refine AW.region ?_
  refine awP (op_assign rfl rfl) ?_; (simp only [nA, Nat.reduceBEq, Nat.reduceEqDiff, ↓reduceIte, Nat.reduceAdd, Nat.reduceSub])
  refine AWL.nil ?_
  (refine hK _ ?_; clear hK K; (skip))
  skip
  refine AW.ret ?_; rw [← all_take (i := i) (by omega), hi.2]; exact RQ.of0 rfl (.tmp (bl rfl) rfl rfl .nil)
end Go.Proofs.Ytdnofpggdddimaa
namespace Go.Proofs.Ytdnofpggdddimaa
open Go.RowKit
set_option linter.unusedSimpArgs false
set_option linter.unusedVariables false
set_option maxRecDepth 100000
def lettersB (s : ByteArray) (lo hi : Int) : Bool := (decide ((s.size : Int) ≥ lo) && decide ((s.size : Int) ≤ hi)) && s.data.toList.all upB
theorem C92 {s : ByteArray} {lo hi : Int} (h : hi ≤ 1000000) : Fn Try.prog 92 [] [.v (.string s), .v (.int .i64 lo), .v (.int .i64 hi)] [.v (.bool (lettersB s lo hi))] [] := by
  refine Spec.body Try.func92 rfl Try.ntmps92 (by simp) rfl ?_; intro S0 own0 v0 w0
  (refine AW.seq_k ?_; intro K hK)
  refine AW.region ?_
  refine awP (op_assign rfl rfl) ?_
  refine AWL.nil ?_
  (refine hK _ ?_; clear hK K; (simp only [nA, Nat.reduceBEq, Nat.reduceEqDiff, ↓reduceIte, Nat.reduceAdd, Nat.reduceSub]))
  (refine AW.seq_k ?_; intro K hK)
  refine AW.region (AWL.quiet ?_)
  refine aqP (op_move rfl rfl) ?_
  (refine aqP (op_len_str rfl rfl Try.underlying9) ?_)
  refine aqP (op_move rfl rfl) ?_
  refine aqP (op_geq rfl rfl rfl) ?_
  refine aqP (op_move rfl rfl) ?_
  refine' aqAnd' [_, _, _, _] [12,13,14,15] rfl rfl rfl rfl rfl rfl rfl rfl rfl rfl rfl rfl (fun hb => ?_) ?_; rotate_left
  ·
   (try simp only [hcS] at hb)
   refine aqP (op_move rfl rfl) ?_
   (refine aqP (op_len_str rfl rfl Try.underlying9) ?_)
   refine aqP (op_move rfl rfl) ?_
   refine aqP (op_leq rfl rfl rfl) ?_
   (refine aqSeg rfl rfl rfl ?_; repeat (first | exact fun _ _ => rfl | refine upd_out rfl ?_))
  simp only [nA, ↓reduceIte]
  refine aqP (op_move rfl rfl) ?_
  refine' aqAnd' [_, _] [18,19] rfl rfl rfl rfl rfl rfl rfl rfl rfl rfl rfl rfl (fun hb => ?_) ?_; rotate_left
  ·
   (try simp only [hcS] at hb)
   refine aqP (op_move rfl rfl) ?_
   refine aqQ (op_callQ (b := true) rfl en100 (C100 (s := s) (by omega)) (RL.cons (by exact View.same rfl) (RL.cons (by exact View.same rfl) (RL.nil))) rfl) ?_; (simp only [nA, Nat.reduceEqDiff, ↓reduceIte])
   (refine aqSeg rfl rfl rfl ?_; repeat (first | exact fun _ _ => rfl | refine upd_out rfl ?_))
  simp only [nA]
  refine aqP (op_assign rfl rfl) ?_
  refine AQ.nil ?_
  (refine hK _ ?_; clear hK K; (simp only [nA]))
  skip
  refine AW.ret ?_; exact RQ.of0 rfl (.tmp (bl rfl) rfl rfl .nil)
def carB (s : ByteArray) : Bool := decide (s.size = 2) && (s.data.toList.all (fun c => upB c || dgB c) && s.data.toList.any upB)
def cntB (s : ByteArray) (i : Nat) : Int := ((s.data.toList.take i).countP upB : Nat)
theorem cnt_yes {s : ByteArray} {i : Nat} (h : i < s.size) (hf : upB (chr s i) = true) : cntB s (i + 1) = cntB s i + 1 := by
  have h2 := get_chr h
  unfold cntB
  rw [List.take_add_one, h2]
  simp [hf]
theorem cnt_no {s : ByteArray} {i : Nat} (h : i < s.size) (hf : upB (chr s i) = false) : cntB s (i + 1) = cntB s i := by
  have h2 := get_chr h
  unfold cntB
  rw [List.take_add_one, h2]
  simp [hf]
theorem cnt_le {s : ByteArray} {i : Nat} (h : i ≤ s.size) : 0 ≤ cntB s i ∧ cntB s i ≤ i := by
  unfold cntB
  have := List.countP_le_length (p := upB) (l := s.data.toList.take i)
  have h3 : (s.data.toList.take i).length ≤ i := by simp; omega
  omega
theorem cnt_end {s : ByteArray} {i : Nat} (h : ¬ i < s.size) : decide (cntB s i > 0) = s.data.toList.any upB := by
  unfold cntB
  rw [List.take_of_length_le (by rw [size_len]; omega), Bool.eq_iff_iff, decide_eq_true_eq, List.any_eq_true]
  have := List.countP_pos_iff (p := upB) (l := s.data.toList)
  constructor
  · intro h; exact this.1 (by omega)
  intro h; have := this.2 h; omega
theorem C91 {s : ByteArray} : Fn Try.prog 91 [] [.v (.string s)] [.v (.bool (carB s))] [] := by
  refine Spec.body Try.func91 rfl Try.ntmps91 (by simp) rfl ?_; intro S0 own0 v0 w0
  (refine AW.seq_k ?_; intro K hK)
  refine AW.region ?_
  refine awP (op_assign rfl rfl) ?_
  refine AWL.nil ?_
  (refine hK _ ?_; clear hK K; (simp only [nA, Nat.reduceBEq, Nat.reduceEqDiff, ↓reduceIte, Nat.reduceAdd, Nat.reduceSub]))
  (refine AW.seq_k ?_; intro K hK)
  (refine AW.seq_k ?_; intro K hK)
  refine AW.region ?_
  refine awP (op_move rfl rfl) ?_
  (refine awP (op_len_str rfl rfl Try.underlying9) ?_)
  (refine awP (op_neq rfl rfl rfl) ?_)
  refine AWL.nil ?_
  (refine hK _ ?_; clear hK K; (simp only [nA, ↓reduceIte]))
  refine AW.cond rfl rfl rfl (fun hc => ?_) (fun hc => ?_)
  ·
   (try simp only [hcS] at hc); have hc1 := hc
   (refine AW.seq_k ?_; intro K hK)
   refine AW.region ?_
   refine awP (op_assign rfl rfl) ?_
   refine AWL.nil ?_
   (refine hK _ ?_; clear hK K; (simp only [nA, Nat.reduceBEq, Nat.reduceEqDiff, ↓reduceIte, Nat.reduceAdd, Nat.reduceSub]))
   skip
   refine AW.ret ?_; (simp only [thenE, inBlk, Nat.reduceEqDiff, ↓reduceIte]); rw [show carB s = false by unfold carB; rw [show decide (s.size = 2) = false by simp; omega]; rfl]; exact RQ.of0 rfl (.tmp (bl rfl) rfl rfl .nil)
  (try simp only [hcS] at hc); have hc1 := hc
  refine AW.skip ?_
  (refine hK _ ?_; clear hK K; (skip))
  (refine AW.seq_k ?_; intro K hK)
  refine AW.region ?_
  refine awP (op_assign rfl rfl) ?_
  refine AWL.nil ?_
  (refine hK _ ?_; clear hK K; (simp only [nA, Nat.reduceBEq, Nat.reduceEqDiff, ↓reduceIte, Nat.reduceAdd, Nat.reduceSub]))
  (refine AW.seq_k ?_; intro K hK)
  (refine AW.seq_k ?_; intro K hK)
  refine AW.region ?_
  refine awP (op_move rfl rfl) ?_
  (refine awP (op_len_str rfl rfl Try.underlying9) ?_)
  refine awP (op_move rfl rfl) ?_
  refine AWL.nil ?_
  (refine hK _ ?_; clear hK K; (simp only [nA, ↓reduceIte]))
  refine AW.block ?_
  refine AW.loopI (fun i => [(0, .v (.string s)), (3, .v (.int .i64 (cntB s i))), (9, .v (.int .i64 s.size)), (10, .v (.int .i64 (i : Nat)))]) (fun _ => ⟨[], 1⟩) (fun i => i ≤ s.size ∧ (s.data.toList.take i).all (fun c => upB c || dgB c) = true) (fun i => s.size - i) 0 (by simp) ⟨rfl, rfl, rfl, rfl, trivial⟩ rfl ?_; intro i ρ hi; simp only [updL]; have hcl := cnt_le (s := s) hi.1
  (refine AW.seq_k ?_; intro K hK)
  refine AW.region ?_
  refine awP (op_lss rfl rfl rfl) ?_
  refine AWL.nil ?_
  (refine hK _ ?_; clear hK K; (simp only [nA, Nat.reduceBEq, Nat.reduceEqDiff, ↓reduceIte, Nat.reduceAdd, Nat.reduceSub]))
  (refine AW.seq_k ?_; intro K hK)
  refine AW.cond rfl rfl rfl (fun hc => ?_) (fun hc => ?_)
  ·
   (try simp only [hcS] at hc); have hc2 := hc
   refine AW.skip ?_
   (refine hK _ ?_; clear hK K; (skip))
   (refine AW.seq_k ?_; intro K hK)
   refine AW.block ?_
   (refine AW.seq_k ?_; intro K hK)
   refine AW.region ?_
   refine awP (op_move rfl rfl) ?_
   refine awP (op_assign rfl rfl) ?_
   refine AWL.nil ?_
   (refine hK _ ?_; clear hK K; (simp only [nA, ↓reduceIte]))
   refine AW.block ?_
   (refine AW.seq_k ?_; intro K hK)
   refine AW.region ?_
   refine awP (op_move rfl rfl) ?_
   refine awP (op_move rfl rfl) ?_
   refine awP (op_ix_str _ rfl rfl rfl Try.underlying9 rfl (get_chr (by omega))) ?_
   refine awJ (OpQ.j (op_callQ (b := true) rfl en98 (C98) (RL.cons (by exact View.same rfl) (RL.nil)) rfl)) ?_; (simp only [nA, ↓reduceIte])
   refine awP (op_assign rfl rfl) ?_
   refine AWL.nil ?_
   (refine hK _ ?_; clear hK K; (simp only [nA]))
   refine AW.cond rfl rfl rfl (fun hc => ?_) (fun hc => ?_)
   ·
    (try simp only [hcS] at hc); have hc3 := hc
    refine AW.region ?_
    refine awP (op_move rfl rfl) ?_
    (refine awP (op_addi rfl rfl rfl (by omega)) ?_)
    refine awP (op_assign rfl rfl) ?_
    refine AWL.nil ?_
    simp only [thenE, inBlk, Nat.reduceEqDiff, ↓reduceIte]
    (refine hK _ ?_; clear hK K; (simp only [nA, ↓reduceIte]))
    refine AW.region ?_
    (refine awP (op_addi rfl rfl rfl (by omega)) ?_)
    refine awP (op_move rfl rfl) ?_
    skip
    refine AWL.nil ?_
    refine ⟨i + 1, ⟨by omega, by rw [take_all (by omega), hi.2]; simp [hc]⟩, by omega, ⟨rfl, (by rw [cnt_yes (by omega) hc]; rfl), rfl, rfl, trivial⟩, rfl, rfl⟩
   (try simp only [hcS] at hc); have hc3 := hc
   (refine AW.seq_k ?_; intro K hK)
   refine AW.region ?_
   refine awP (op_move rfl rfl) ?_
   refine awP (op_move rfl rfl) ?_
   refine awP (op_ix_str _ rfl rfl rfl Try.underlying9 rfl (get_chr (by omega))) ?_
   refine awJ (OpQ.j (op_callQ (b := true) rfl en99 (C99) (RL.cons (by exact View.same rfl) (RL.nil)) rfl)) ?_; (simp only [nA, ↓reduceIte])
   refine awP (op_not rfl rfl rfl) ?_
   refine awP (op_assign rfl rfl) ?_
   refine AWL.nil ?_
   (refine hK _ ?_; clear hK K; (simp only [nA]))
   refine AW.cond rfl rfl rfl (fun hc => ?_) (fun hc => ?_)
   ·
    (try simp only [hcS] at hc); have hc4 := hc
    (refine AW.seq_k ?_; intro K hK)
    refine AW.region ?_
    refine awP (op_assign rfl rfl) ?_
    refine AWL.nil ?_
    (refine hK _ ?_; clear hK K; (simp only [nA, Nat.reduceBEq, Nat.reduceEqDiff, ↓reduceIte, Nat.reduceAdd, Nat.reduceSub]))
    skip
    refine AW.ret ?_; (simp only [thenE, inBlk, Nat.reduceEqDiff, ↓reduceIte]); rw [show carB s = false by unfold carB; rw [all_no (i := i) (by omega) (by rw [hc3, hc]; rfl)]; simp]; exact RQ.of0 rfl (.tmp (bl rfl) rfl rfl .nil)
   (try simp only [hcS] at hc); have hc4 := hc
   refine AW.skip ?_
   simp only [thenE, inBlk, Nat.reduceEqDiff, ↓reduceIte]
   (refine hK _ ?_; clear hK K; (skip))
   refine AW.region ?_
   (refine awP (op_addi rfl rfl rfl (by omega)) ?_)
   refine awP (op_move rfl rfl) ?_
   skip
   refine AWL.nil ?_
   refine ⟨i + 1, ⟨by omega, by rw [take_all (by omega), hi.2]; simp [hc]⟩, by omega, ⟨rfl, (by rw [cnt_no (by omega) hc3]; rfl), rfl, rfl, trivial⟩, rfl, rfl⟩
  (try simp only [hcS] at hc); have hc2 := hc
  refine AW.exit ?_; (simp only [thenE, inBlk, Nat.reduceEqDiff, ↓reduceIte])
  clear hK K
  (refine hK _ ?_; clear hK K; (skip))
  (refine AW.seq_k ?_; intro K hK)
  refine AW.region ?_
  refine awP (op_move rfl rfl) ?_
  refine awP (op_gtr rfl rfl rfl) ?_
  refine awP (op_assign rfl rfl) ?_
  refine AWL.nil ?_
  (refine hK _ ?_; clear hK K; (simp only [nA, ↓reduceIte]))
  skip
  refine AW.ret ?_; rw [show carB s = decide (cntB s i > 0) by unfold carB; rw [cnt_end (by omega), show decide (s.size = 2) = true by simp; omega, ← all_take (i := i) (by omega), hi.2]; rfl]; exact RQ.of0 rfl (.tmp (bl rfl) rfl rfl .nil)
theorem C93 {n : Int} : Fn Try.prog 93 [] [.v (.int .i64 n)] [.v (.bool false)] [] := by
  refine Spec.body Try.func93 rfl Try.ntmps93 (by simp) rfl ?_; intro S0 own0 v0 w0
  (refine AW.seq_k ?_; intro K hK)
  refine AW.region ?_
  refine awP (op_assign rfl rfl) ?_
  refine AWL.nil ?_
  (refine hK _ ?_; clear hK K; (simp only [nA, Nat.reduceBEq, Nat.reduceEqDiff, ↓reduceIte, Nat.reduceAdd, Nat.reduceSub]))
  (refine AW.seq_k ?_; intro K hK)
  refine AW.region ?_
  refine awP (op_move rfl rfl) ?_
  refine awP (op_move rfl rfl) ?_
  (refine awP (op_neq rfl rfl rfl) ?_)
  refine awP (op_assign rfl rfl) ?_
  refine AWL.nil ?_
  (refine hK _ ?_; clear hK K; (simp only [nA, ↓reduceIte]))
  skip
  refine AW.ret ?_; exact RQ.of0 rfl (.tmp (bl rfl) rfl rfl .nil)
def cmpI (a b : Int) : Int := if a < b then -1 else if a > b then 1 else 0
theorem C82 {a b : Int} : Fn Try.prog 82 [] [.v (.int .i64 a), .v (.int .i64 b)] [.v (.int .i64 (cmpI a b))] [] := by
  refine Spec.body Try.func82 rfl Try.ntmps82 (by simp) rfl ?_; intro S0 own0 v0 w0
  (refine AW.seq_k ?_; intro K hK)
  refine AW.region ?_
  refine awP (op_assign rfl rfl) ?_
  refine AWL.nil ?_
  (refine hK _ ?_; clear hK K; (simp only [nA, Nat.reduceBEq, Nat.reduceEqDiff, ↓reduceIte, Nat.reduceAdd, Nat.reduceSub]))
  (refine AW.seq_k ?_; intro K hK)
  refine AW.region ?_
  refine awP (op_move rfl rfl) ?_
  refine awJ (OpQ.j (op_callQ (b := true) rfl en93 (C93) (RL.cons (by exact View.same rfl) (RL.nil)) rfl)) ?_; (simp only [nA, ↓reduceIte])
  refine awP (op_assign rfl rfl) ?_
  refine AWL.nil ?_
  (refine hK _ ?_; clear hK K; (simp only [nA]))
  (refine AW.seq_k ?_; intro K hK)
  refine AW.region ?_
  refine awP (op_move rfl rfl) ?_
  refine awJ (OpQ.j (op_callQ (b := true) rfl en93 (C93) (RL.cons (by exact View.same rfl) (RL.nil)) rfl)) ?_; (simp only [nA, ↓reduceIte])
  refine awP (op_assign rfl rfl) ?_
  refine AWL.nil ?_
  (refine hK _ ?_; clear hK K; (simp only [nA]))
  (refine AW.seq_k ?_; intro K hK)
  (refine AW.seq_k ?_; intro K hK)
  refine AW.region ?_
  refine awP (op_move rfl rfl) ?_
  refine AWL.nil ?_
  (refine hK _ ?_; clear hK K; (simp only [nA, ↓reduceIte]))
  refine AW.cond rfl rfl rfl (fun hc => ?_) (fun hc => ?_)
  · (cases hc; done)
  (try simp only [hcS] at hc); have hc1 := hc
  refine AW.skip ?_
  (refine hK _ ?_; clear hK K; (skip))
  (refine AW.seq_k ?_; intro K hK)
  (refine AW.seq_k ?_; intro K hK)
  refine AW.region ?_
  refine awP (op_move rfl rfl) ?_
  refine AWL.nil ?_
  (refine hK _ ?_; clear hK K; (simp only [nA, ↓reduceIte]))
  refine AW.cond rfl rfl rfl (fun hc => ?_) (fun hc => ?_)
  · (cases hc; done)
  (try simp only [hcS] at hc); have hc2 := hc
  refine AW.skip ?_
  (refine hK _ ?_; clear hK K; (skip))
  (refine AW.seq_k ?_; intro K hK)
  (refine AW.seq_k ?_; intro K hK)
  refine AW.region ?_
  refine awP (op_move rfl rfl) ?_
  refine awP (op_move rfl rfl) ?_
  refine awP (op_lss rfl rfl rfl) ?_
  refine AWL.nil ?_
  (refine hK _ ?_; clear hK K; (simp only [nA, ↓reduceIte]))
  refine AW.cond rfl rfl rfl (fun hc => ?_) (fun hc => ?_)
  ·
   (try simp only [hcS] at hc); have hc3 := hc
   (refine AW.seq_k ?_; intro K hK)
   refine AW.region ?_
   refine awP (op_assign rfl rfl) ?_
   refine AWL.nil ?_
   (refine hK _ ?_; clear hK K; (simp only [nA, Nat.reduceBEq, Nat.reduceEqDiff, ↓reduceIte, Nat.reduceAdd, Nat.reduceSub]))
   skip
   refine AW.ret ?_; (simp only [thenE, inBlk, Nat.reduceEqDiff, ↓reduceIte]); rw [show cmpI a b = -1 by unfold cmpI; rw [if_pos (by omega)]]; exact RQ.of0 rfl (.tmp (bl rfl) rfl rfl .nil)
  (try simp only [hcS] at hc); have hc3 := hc
  refine AW.skip ?_
  (refine hK _ ?_; clear hK K; (skip))
  (refine AW.seq_k ?_; intro K hK)
  (refine AW.seq_k ?_; intro K hK)
  refine AW.region ?_
  refine awP (op_move rfl rfl) ?_
  refine awP (op_move rfl rfl) ?_
  refine awP (op_gtr rfl rfl rfl) ?_
  refine AWL.nil ?_
  (refine hK _ ?_; clear hK K; (simp only [nA, ↓reduceIte]))
  refine AW.cond rfl rfl rfl (fun hc => ?_) (fun hc => ?_)
  ·
   (try simp only [hcS] at hc); have hc4 := hc
   (refine AW.seq_k ?_; intro K hK)
   refine AW.region ?_
   refine awP (op_assign rfl rfl) ?_
   refine AWL.nil ?_
   (refine hK _ ?_; clear hK K; (simp only [nA, Nat.reduceBEq, Nat.reduceEqDiff, ↓reduceIte, Nat.reduceAdd, Nat.reduceSub]))
   skip
   refine AW.ret ?_; (simp only [thenE, inBlk, Nat.reduceEqDiff, ↓reduceIte]); rw [show cmpI a b = 1 by unfold cmpI; rw [if_neg (by omega), if_pos (by omega)]]; exact RQ.of0 rfl (.tmp (bl rfl) rfl rfl .nil)
  (try simp only [hcS] at hc); have hc4 := hc
  refine AW.skip ?_
  (refine hK _ ?_; clear hK K; (skip))
  (refine AW.seq_k ?_; intro K hK)
  refine AW.region ?_
  refine awP (op_assign rfl rfl) ?_
  refine AWL.nil ?_
  (refine hK _ ?_; clear hK K; (simp only [nA, Nat.reduceBEq, Nat.reduceEqDiff, ↓reduceIte, Nat.reduceAdd, Nat.reduceSub]))
  skip
  refine AW.ret ?_; rw [show cmpI a b = 0 by unfold cmpI; rw [if_neg (by omega), if_neg (by omega)]]; exact RQ.of0 rfl (.tmp (bl rfl) rfl rfl .nil)
end Go.Proofs.Ytdnofpggdddimaa
namespace Go.Proofs.Ytdnofpggdddimaa
open Go.RowKit
set_option linter.unusedSimpArgs false
set_option linter.unusedVariables false
set_option maxRecDepth 100000
structure Plate where
  lead : Int
  airline : Int
  serial : Int
  deriving DecidableEq
structure Flight where
  carrier : ByteArray
  number : Int
  suffix : ByteArray
  day : Int
structure Piece where
  plate : Plate
  weight : Int
  category : Int
structure Container where
  number : Int
  flight : Flight
  categories : Int
  limit : Int
  most : Int
  position : Int
  arm : Int
  pieces : List Piece
abbrev Plate.av (p : Plate) : List AV := [.v (.int .i64 p.lead), .v (.int .i64 p.airline), .v (.int .i64 p.serial)]
abbrev Flight.av (f : Flight) : List AV := [.v (.string f.carrier), .v (.int .i64 f.number), .v (.string f.suffix), .v (.int .i64 f.day)]
abbrev Piece.av (p : Piece) : List AV := [.v (.int .i64 p.plate.lead), .v (.int .i64 p.plate.airline), .v (.int .i64 p.plate.serial), .v (.int .i64 p.weight), .v (.int .i64 p.category)]
abbrev Container.av (c : Container) : List AV := [.v (.int .i64 c.number), .v (.string c.flight.carrier), .v (.int .i64 c.flight.number), .v (.string c.flight.suffix), .v (.int .i64 c.flight.day), .v (.int .i64 c.categories), .v (.int .i64 c.limit), .v (.int .i64 c.most), .v (.int .i64 c.position), .v (.int .i64 c.arm), .ro (c.pieces.map Piece.av)]
def flB (f : Flight) : Bool := ((((carB f.carrier && decide (f.number ≥ 1)) && decide (f.number ≤ 9999)) && lettersB f.suffix 0 1) && decide (f.day ≥ 0)) && decide (f.day ≤ 99)
def plB (p : Plate) : Bool := ((((decide (p.lead ≥ 0) && decide (p.lead ≤ 9)) && decide (p.airline ≥ 1)) && decide (p.airline ≤ 999)) && decide (p.serial ≥ 0)) && decide (p.serial < 1000000)
theorem C80 {f : Flight} : Fn Try.prog 80 [] [.agg f.av] [.v (.bool (flB f))] [] := by
  refine Spec.body Try.func80 rfl Try.ntmps80 (by simp) rfl ?_; intro S0 own0 v0 w0
  (refine AW.seq_k ?_; intro K hK)
  refine AW.region ?_
  refine awJ (op_box rfl rfl rfl sz73 rfl) ?_; (simp only [nA, Nat.reduceBEq, Nat.reduceEqDiff, ↓reduceIte])
  refine awP (op_assign rfl rfl) ?_
  refine AWL.nil ?_
  (refine hK _ ?_; clear hK K; (simp only [nA, Nat.reduceBEq, Nat.reduceEqDiff, ↓reduceIte, Nat.reduceAdd, Nat.reduceSub]))
  (refine AW.seq_k ?_; intro K hK)
  refine AW.region (AWL.quiet ?_)
  (refine aqP (op_fa_ptr rfl rfl rfl fl73_0 (by exact sz9) (by decide) rfl) ?_)
  (refine aqR (op_load_ptr1 rfl rfl rfl rfl ag9 rfl rfl) ?_)
  refine aqQ (op_callQ (b := true) rfl en91 (C91) (RL.cons (by exact View.same rfl) (RL.nil)) rfl) ?_; (simp only [nA, Nat.reduceBEq, Nat.reduceEqDiff, ↓reduceIte, Nat.reduceAdd, Nat.reduceSub])
  refine aqP (op_move rfl rfl) ?_
  refine' aqAnd' [_, _, _] [7,8,9] rfl rfl rfl rfl rfl rfl rfl rfl rfl rfl rfl rfl (fun hb => ?_) ?_; rotate_left
  ·
   (try simp only [hcS] at hb)
   (refine aqP (op_fa_ptr rfl rfl rfl fl73_1 (by exact sz3) (by decide) rfl) ?_)
   (refine aqR (op_load_ptr1 rfl rfl rfl rfl ag3 rfl rfl) ?_)
   refine aqP (op_geq rfl rfl rfl) ?_
   (refine aqSeg rfl rfl rfl ?_; repeat (first | exact fun _ _ => rfl | refine upd_out rfl ?_))
  simp only [nA]
  refine aqP (op_move rfl rfl) ?_
  refine' aqAnd' [_, _, _] [12,13,14] rfl rfl rfl rfl rfl rfl rfl rfl rfl rfl rfl rfl (fun hb => ?_) ?_; rotate_left
  ·
   (try simp only [hcS] at hb)
   (refine aqP (op_fa_ptr rfl rfl rfl fl73_1 (by exact sz3) (by decide) rfl) ?_)
   (refine aqR (op_load_ptr1 rfl rfl rfl rfl ag3 rfl rfl) ?_)
   refine aqP (op_leq rfl rfl rfl) ?_
   (refine aqSeg rfl rfl rfl ?_; repeat (first | exact fun _ _ => rfl | refine upd_out rfl ?_))
  simp only [nA]
  refine aqP (op_move rfl rfl) ?_
  refine' aqAnd' [_, _, _] [17,18,19] rfl rfl rfl rfl rfl rfl rfl rfl rfl rfl rfl rfl (fun hb => ?_) ?_; rotate_left
  ·
   (try simp only [hcS] at hb)
   (refine aqP (op_fa_ptr rfl rfl rfl fl73_2 (by exact sz9) (by decide) rfl) ?_)
   (refine aqR (op_load_ptr1 rfl rfl rfl rfl ag9 rfl rfl) ?_)
   refine aqQ (op_callQ (b := true) rfl en92 (C92 (lo := 0) (hi := 1) (by decide)) (RL.cons (by exact View.same rfl) (RL.cons (by exact View.same rfl) (RL.cons (by exact View.same rfl) (RL.nil)))) rfl) ?_; (simp only [nA])
   (refine aqSeg rfl rfl rfl ?_; repeat (first | exact fun _ _ => rfl | refine upd_out rfl ?_))
  simp only [nA]
  refine aqP (op_move rfl rfl) ?_
  refine' aqAnd' [_, _, _] [22,23,24] rfl rfl rfl rfl rfl rfl rfl rfl rfl rfl rfl rfl (fun hb => ?_) ?_; rotate_left
  ·
   (try simp only [hcS] at hb)
   (refine aqP (op_fa_ptr rfl rfl rfl fl73_3 (by exact sz3) (by decide) rfl) ?_)
   (refine aqR (op_load_ptr1 rfl rfl rfl rfl ag3 rfl rfl) ?_)
   refine aqP (op_geq rfl rfl rfl) ?_
   (refine aqSeg rfl rfl rfl ?_; repeat (first | exact fun _ _ => rfl | refine upd_out rfl ?_))
  simp only [nA]
  refine aqP (op_move rfl rfl) ?_
  refine' aqAnd' [_, _, _] [27,28,29] rfl rfl rfl rfl rfl rfl rfl rfl rfl rfl rfl rfl (fun hb => ?_) ?_; rotate_left
  ·
   (try simp only [hcS] at hb)
   (refine aqP (op_fa_ptr rfl rfl rfl fl73_3 (by exact sz3) (by decide) rfl) ?_)
   (refine aqR (op_load_ptr1 rfl rfl rfl rfl ag3 rfl rfl) ?_)
   refine aqP (op_leq rfl rfl rfl) ?_
   (refine aqSeg rfl rfl rfl ?_; repeat (first | exact fun _ _ => rfl | refine upd_out rfl ?_))
  simp only [nA]
  refine aqP (op_assign rfl rfl) ?_
  refine AQ.nil ?_
  (refine hK _ ?_; clear hK K; (simp only [nA]))
  skip
  refine AW.ret ?_; exact RQ.of0 rfl (.tmp (bl rfl) rfl rfl .nil)
theorem C72 {p : Plate} : Fn Try.prog 72 [] [.agg p.av] [.v (.bool (plB p))] [] := by
  refine Spec.body Try.func72 rfl Try.ntmps72 (by simp) rfl ?_; intro S0 own0 v0 w0
  (refine AW.seq_k ?_; intro K hK)
  refine AW.region ?_
  refine awJ (op_box rfl rfl rfl sz29 rfl) ?_; (simp only [nA, Nat.reduceBEq, Nat.reduceEqDiff, ↓reduceIte])
  refine awP (op_assign rfl rfl) ?_
  refine AWL.nil ?_
  (refine hK _ ?_; clear hK K; (simp only [nA, Nat.reduceBEq, Nat.reduceEqDiff, ↓reduceIte, Nat.reduceAdd, Nat.reduceSub]))
  (refine AW.seq_k ?_; intro K hK)
  refine AW.region (AWL.quiet ?_)
  (refine aqP (op_fa_ptr rfl rfl rfl fl29_0 (by exact sz3) (by decide) rfl) ?_)
  (refine aqR (op_load_ptr1 rfl rfl rfl rfl ag3 rfl rfl) ?_)
  refine aqP (op_geq rfl rfl rfl) ?_
  refine aqP (op_move rfl rfl) ?_
  refine' aqAnd' [_, _, _] [7,8,9] rfl rfl rfl rfl rfl rfl rfl rfl rfl rfl rfl rfl (fun hb => ?_) ?_; rotate_left
  ·
   (try simp only [hcS] at hb)
   (refine aqP (op_fa_ptr rfl rfl rfl fl29_0 (by exact sz3) (by decide) rfl) ?_)
   (refine aqR (op_load_ptr1 rfl rfl rfl rfl ag3 rfl rfl) ?_)
   refine aqP (op_leq rfl rfl rfl) ?_
   (refine aqSeg rfl rfl rfl ?_; repeat (first | exact fun _ _ => rfl | refine upd_out rfl ?_))
  simp only [nA]
  refine aqP (op_move rfl rfl) ?_
  refine' aqAnd' [_, _, _] [12,13,14] rfl rfl rfl rfl rfl rfl rfl rfl rfl rfl rfl rfl (fun hb => ?_) ?_; rotate_left
  ·
   (try simp only [hcS] at hb)
   (refine aqP (op_fa_ptr rfl rfl rfl fl29_1 (by exact sz3) (by decide) rfl) ?_)
   (refine aqR (op_load_ptr1 rfl rfl rfl rfl ag3 rfl rfl) ?_)
   refine aqP (op_geq rfl rfl rfl) ?_
   (refine aqSeg rfl rfl rfl ?_; repeat (first | exact fun _ _ => rfl | refine upd_out rfl ?_))
  simp only [nA]
  refine aqP (op_move rfl rfl) ?_
  refine' aqAnd' [_, _, _] [17,18,19] rfl rfl rfl rfl rfl rfl rfl rfl rfl rfl rfl rfl (fun hb => ?_) ?_; rotate_left
  ·
   (try simp only [hcS] at hb)
   (refine aqP (op_fa_ptr rfl rfl rfl fl29_1 (by exact sz3) (by decide) rfl) ?_)
   (refine aqR (op_load_ptr1 rfl rfl rfl rfl ag3 rfl rfl) ?_)
   refine aqP (op_leq rfl rfl rfl) ?_
   (refine aqSeg rfl rfl rfl ?_; repeat (first | exact fun _ _ => rfl | refine upd_out rfl ?_))
  simp only [nA]
  refine aqP (op_move rfl rfl) ?_
  refine' aqAnd' [_, _, _] [22,23,24] rfl rfl rfl rfl rfl rfl rfl rfl rfl rfl rfl rfl (fun hb => ?_) ?_; rotate_left
  ·
   (try simp only [hcS] at hb)
   (refine aqP (op_fa_ptr rfl rfl rfl fl29_2 (by exact sz3) (by decide) rfl) ?_)
   (refine aqR (op_load_ptr1 rfl rfl rfl rfl ag3 rfl rfl) ?_)
   refine aqP (op_geq rfl rfl rfl) ?_
   (refine aqSeg rfl rfl rfl ?_; repeat (first | exact fun _ _ => rfl | refine upd_out rfl ?_))
  simp only [nA]
  refine aqP (op_move rfl rfl) ?_
  refine' aqAnd' [_, _, _] [27,28,29] rfl rfl rfl rfl rfl rfl rfl rfl rfl rfl rfl rfl (fun hb => ?_) ?_; rotate_left
  ·
   (try simp only [hcS] at hb)
   (refine aqP (op_fa_ptr rfl rfl rfl fl29_2 (by exact sz3) (by decide) rfl) ?_)
   (refine aqR (op_load_ptr1 rfl rfl rfl rfl ag3 rfl rfl) ?_)
   refine aqP (op_lss rfl rfl rfl) ?_
   (refine aqSeg rfl rfl rfl ?_; repeat (first | exact fun _ _ => rfl | refine upd_out rfl ?_))
  simp only [nA]
  refine aqP (op_assign rfl rfl) ?_
  refine AQ.nil ?_
  (refine hK _ ?_; clear hK K; (simp only [nA]))
  skip
  refine AW.ret ?_; exact RQ.of0 rfl (.tmp (bl rfl) rfl rfl .nil)
def orL (l : List Int) : Int := (l.find? (fun x => decide (x ≠ 0))).getD 0
theorem orL_yes {l : List Int} {i : Nat} (h : i < l.length) (hz : ∀ x ∈ l.take i, x = 0) (hx : l[i] ≠ 0) : orL l = l[i] := by
  have e : l = l.take i ++ l[i] :: l.drop (i + 1) := by rw [← List.drop_eq_getElem_cons h, List.take_append_drop]
  unfold orL
  conv => lhs; rw [e]
  rw [List.find?_append, List.find?_eq_none.2 (fun x hm => by simp [hz x hm]), List.find?_cons_of_pos (by simp [hx])]
  rfl
theorem orL_no {l : List Int} {i : Nat} (h : ¬ i < l.length) (hz : ∀ x ∈ l.take i, x = 0) : orL l = 0 := by
  rw [List.take_of_length_le (by omega)] at hz
  unfold orL
  rw [List.find?_eq_none.2 (fun x hm => by simp [hz x hm])]
  rfl
theorem C81g {l : List Int} (hl : l.length ≤ 1000000) : Fn Try.prog 81 [] [.ro (l.map fun n => [.v (.int .i64 n)])] [.v (.int .i64 (orL l))] [] := by
  refine Spec.body Try.func81 rfl Try.ntmps81 (by simp) rfl ?_; intro S0 own0 v0 w0
  (refine AW.seq_k ?_; intro K hK)
  refine AW.region ?_
  refine awP (op_assign rfl rfl) ?_
  refine AWL.nil ?_
  (refine hK _ ?_; clear hK K; (simp only [nA, Nat.reduceBEq, Nat.reduceEqDiff, ↓reduceIte, Nat.reduceAdd, Nat.reduceSub]))
  (refine AW.seq_k ?_; intro K hK)
  refine AW.region ?_
  refine awP (op_assign rfl rfl) ?_
  refine AWL.nil ?_
  (refine hK _ ?_; clear hK K; (simp only [nA, Nat.reduceBEq, Nat.reduceEqDiff, ↓reduceIte, Nat.reduceAdd, Nat.reduceSub]))
  (refine AW.seq_k ?_; intro K hK)
  (refine AW.seq_k ?_; intro K hK)
  refine AW.region ?_
  refine awP (op_move rfl rfl) ?_
  (refine awP (op_len_ro rfl rfl Try.underlying27 (by exact .inr (.inl ⟨_, rfl, rfl⟩))) ?_)
  refine awP (op_move rfl rfl) ?_
  refine AWL.nil ?_
  (refine hK _ ?_; clear hK K; (simp only [nA, ↓reduceIte]))
  refine AW.block ?_
  refine AW.loopI (fun i => [(3, .v (.int .i64 0)), (6, .ro (l.map fun n => [.v (.int .i64 n)])), (7, .v (.int .i64 l.length)), (8, .v (.int .i64 (i : Nat)))]) (fun _ => ⟨[], 1⟩) (fun i => i ≤ l.length ∧ ∀ x ∈ l.take i, x = 0) (fun i => l.length - i) 0 (by simp) ⟨rfl, rfl, rfl, rfl, trivial⟩ rfl ?_; intro i ρ hi; simp only [updL]
  (refine AW.seq_k ?_; intro K hK)
  refine AW.region ?_
  refine awP (op_lss rfl rfl rfl) ?_
  refine AWL.nil ?_
  (refine hK _ ?_; clear hK K; (simp only [nA, Nat.reduceBEq, Nat.reduceEqDiff, ↓reduceIte, Nat.reduceAdd, Nat.reduceSub]))
  (refine AW.seq_k ?_; intro K hK)
  refine AW.cond rfl rfl rfl (fun hc => ?_) (fun hc => ?_)
  ·
   (try simp only [hcS] at hc); have hc1 := hc
   refine AW.skip ?_
   (refine hK _ ?_; clear hK K; (skip))
   (refine AW.seq_k ?_; intro K hK)
   refine AW.block ?_
   (refine AW.seq_k ?_; intro K hK)
   refine AW.region ?_
   (refine awP (op_ia_ro _ rfl (.inl rfl) rfl Try.underlying27 rfl (get_map (by omega)) (by exact sz3) (bl rfl)) ?_)
   (refine awR (op_load_rop1 rfl rfl ag3) ?_)
   refine awP (op_assign rfl rfl) ?_
   refine AWL.nil ?_
   (refine hK _ ?_; clear hK K; (simp only [nA]))
   (refine AW.seq_k ?_; intro K hK)
   refine AW.region ?_
   refine awP (op_move rfl rfl) ?_
   refine awP (op_move rfl rfl) ?_
   (refine awP (op_neq rfl rfl rfl) ?_)
   refine AWL.nil ?_
   (refine hK _ ?_; clear hK K; (simp only [nA, ↓reduceIte]))
   refine AW.cond rfl rfl rfl (fun hc => ?_) (fun hc => ?_)
   ·
    (try simp only [hcS] at hc); have hc2 := hc
    (refine AW.seq_k ?_; intro K hK)
    refine AW.region ?_
    refine awP (op_move rfl rfl) ?_
    refine awP (op_assign rfl rfl) ?_
    refine AWL.nil ?_
    (refine hK _ ?_; clear hK K; (simp only [nA, ↓reduceIte]))
    skip
    refine AW.ret ?_; (simp only [thenE, inBlk, Nat.reduceEqDiff, ↓reduceIte]); rw [orL_yes (i := i) (by omega) hi.2 (by simpa using hc)]; exact RQ.of0 rfl (.tmp (bl rfl) rfl rfl .nil)
   (try simp only [hcS] at hc); have hc2 := hc
   refine AW.skip ?_
   simp only [thenE, inBlk, Nat.reduceEqDiff, ↓reduceIte]
   (refine hK _ ?_; clear hK K; (skip))
   refine AW.region ?_
   (refine awP (op_addi rfl rfl rfl (by omega)) ?_)
   refine awP (op_move rfl rfl) ?_
   skip
   refine AWL.nil ?_
   refine ⟨i + 1, ⟨by omega, fun x hx => ?_⟩, by omega, ⟨rfl, rfl, rfl, rfl, trivial⟩, rfl, rfl⟩; rw [List.take_add_one, List.mem_append] at hx; rcases hx with hx | hx; exact hi.2 x hx; rw [List.getElem?_eq_getElem (by omega)] at hx; simp at hx; rw [hx]; simpa using hc
  (try simp only [hcS] at hc); have hc1 := hc
  refine AW.exit ?_; (simp only [thenE, inBlk, Nat.reduceEqDiff, ↓reduceIte])
  clear hK K
  (refine hK _ ?_; clear hK K; (skip))
  (refine AW.seq_k ?_; intro K hK)
  refine AW.region ?_
  refine awP (op_move rfl rfl) ?_
  refine awP (op_assign rfl rfl) ?_
  refine AWL.nil ?_
  (refine hK _ ?_; clear hK K; (simp only [nA, ↓reduceIte]))
  skip
  refine AW.ret ?_; rw [orL_no (i := i) (by omega) hi.2]; exact RQ.of0 rfl (.tmp (bl rfl) rfl rfl .nil)
theorem C81 {a b c : Int} : Fn Try.prog 81 [] [.ro [[.v (.int .i64 a)], [.v (.int .i64 b)], [.v (.int .i64 c)]]] [.v (.int .i64 (orL [a, b, c]))] [] := C81g (l := [a, b, c]) (by simp)
end Go.Proofs.Ytdnofpggdddimaa
namespace Go.Proofs.Ytdnofpggdddimaa
open Go.RowKit
set_option linter.unusedSimpArgs false
set_option linter.unusedVariables false
set_option maxRecDepth 100000
theorem st29 : Try.prog.stoodInHeld 29 = false := by kernel_rfl
theorem fo29 : Try.prog.underlying 29 = some (.struct (Try.prog.fieldsOf 29)) := by
  unfold Program.fieldsOf; rw [Try.underlying29]
theorem ty29 : Try.prog.eqGuardType Try.prog.depth 29 = false := by kernel_rfl
theorem run_eq29 (p q : Plate) (w : World) : (binOp .eql 29 (.agg #[.int .i64 p.lead, .int .i64 p.airline, .int .i64 p.serial]) (.agg #[.int .i64 q.lead, .int .i64 q.airline, .int .i64 q.serial])).run Try.prog w = .ok (.bool (decide (p = q))) w := by
  obtain ⟨a, b, c⟩ := p
  obtain ⟨a', b', c'⟩ := q
  unfold binOp
  simp only [Op.equal]
  rw [Sem.run_bind, show Op.maxDepth = 9998 + 1 + 1 from rfl, run_equalIn_struct w _ 29 _ _ fo29 st29]
  unfold Program.fieldsOf; rw [Try.underlying29]
  simp only [Op.eqFields]
  go_simp
  by_cases h1 : a = a' <;> by_cases h2 : b = b' <;> by_cases h3 : c = c' <;> simp [h1, h2, h3]
theorem run_ty29 (p q : Operand) (x y : Array Value) (w : World) : (eqGuard .eql 29 p q (.agg x) (.agg y)).run Try.prog w = .ok () w := by
  unfold eqGuard
  simp [ty29, run_program]
section
variable {S0 : Nat → Prop} {own0 : List Nat} {v0 : List Value} {w0 : World} {o : Oper} {ev : Operand → AV} {T : Sl} {yt : TypeId} {y z : Operand} {p q : Plate}
theorem op_eq29 (ho : o.op = .binOp .eql 29 y z yt) (hy : ev y = .agg p.av) (hz : ev z = .agg q.av) : OpP ⟨Try.prog, S0, own0, v0, w0⟩ o ev T (.v (.bool (decide (p = q)))) :=
  op_bin_agg (xs := [.int .i64 p.lead, .int .i64 p.airline, .int .i64 p.serial]) (ys := [.int .i64 q.lead, .int .i64 q.airline, .int .i64 q.serial]) ho hy hz (fun w => run_ty29 _ _ _ _ w) (fun w => run_eq29 p q w) rfl
end
def cmpP (p q : Plate) : Int := orL [cmpI p.lead q.lead, cmpI p.airline q.airline, cmpI p.serial q.serial]
theorem C63 {p q : Plate} : Fn Try.prog 63 [] [.agg p.av, .agg q.av] [.v (.int .i64 (cmpP p q))] [] := by
  refine Spec.body Try.func63 rfl Try.ntmps63 (by simp) rfl ?_; intro S0 own0 v0 w0
  (refine AW.seq_k ?_; intro K hK)
  refine AW.region ?_
  refine awJ (op_box rfl rfl rfl sz29 rfl) ?_; (simp only [nA, Nat.reduceBEq, Nat.reduceEqDiff, ↓reduceIte])
  refine awJ (op_box rfl rfl rfl sz29 rfl) ?_; (simp only [nA, Nat.reduceBEq, Nat.reduceEqDiff, ↓reduceIte])
  refine awP (op_assign rfl rfl) ?_; (simp only [nA, Nat.reduceBEq, Nat.reduceEqDiff, ↓reduceIte, Nat.reduceAdd, Nat.reduceSub])
  refine AWL.nil ?_
  (refine hK _ ?_; clear hK K; (simp only [nA, Nat.reduceBEq, Nat.reduceEqDiff, ↓reduceIte, Nat.reduceAdd, Nat.reduceSub]))
  (refine AW.seq_k ?_; intro K hK)
  refine AW.quiet_tail 15 mix (by kernel_rfl) rfl rfl ?_
  (refine aqP (op_fa_ptr rfl rfl rfl fl29_0 (by exact sz3) (by decide) rfl) ?_); (simp only [nA, Nat.reduceBEq, Nat.reduceEqDiff, ↓reduceIte, Nat.reduceAdd, Nat.reduceSub])
  (refine aqR (op_load_ptr1 rfl rfl rfl rfl ag3 rfl rfl) ?_); (simp only [nA, Nat.reduceBEq, Nat.reduceEqDiff, ↓reduceIte, Nat.reduceAdd, Nat.reduceSub])
  (refine aqP (op_fa_ptr rfl rfl rfl fl29_0 (by exact sz3) (by decide) rfl) ?_); (simp only [nA, Nat.reduceBEq, Nat.reduceEqDiff, ↓reduceIte, Nat.reduceAdd, Nat.reduceSub])
  (refine aqR (op_load_ptr1 rfl rfl rfl rfl ag3 rfl rfl) ?_); (simp only [nA, Nat.reduceBEq, Nat.reduceEqDiff, ↓reduceIte, Nat.reduceAdd, Nat.reduceSub])
  refine aqQ (op_callQ (b := true) rfl en82 (C82) (RL.cons (by exact View.same rfl) (RL.cons (by exact View.same rfl) (RL.nil))) rfl) ?_; (simp only [nA, Nat.reduceBEq, Nat.reduceEqDiff, ↓reduceIte, Nat.reduceAdd, Nat.reduceSub])
  (refine aqP (op_fa_ptr rfl rfl rfl fl29_1 (by exact sz3) (by decide) rfl) ?_); (simp only [nA, Nat.reduceBEq, Nat.reduceEqDiff, ↓reduceIte, Nat.reduceAdd, Nat.reduceSub])
  (refine aqR (op_load_ptr1 rfl rfl rfl rfl ag3 rfl rfl) ?_); (simp only [nA, Nat.reduceBEq, Nat.reduceEqDiff, ↓reduceIte, Nat.reduceAdd, Nat.reduceSub])
  (refine aqP (op_fa_ptr rfl rfl rfl fl29_1 (by exact sz3) (by decide) rfl) ?_); (simp only [nA, Nat.reduceBEq, Nat.reduceEqDiff, ↓reduceIte, Nat.reduceAdd, Nat.reduceSub])
  (refine aqR (op_load_ptr1 rfl rfl rfl rfl ag3 rfl rfl) ?_); (simp only [nA, Nat.reduceBEq, Nat.reduceEqDiff, ↓reduceIte, Nat.reduceAdd, Nat.reduceSub])
  refine aqQ (op_callQ (b := true) rfl en82 (C82) (RL.cons (by exact View.same rfl) (RL.cons (by exact View.same rfl) (RL.nil))) rfl) ?_; (simp only [nA, Nat.reduceBEq, Nat.reduceEqDiff, ↓reduceIte, Nat.reduceAdd, Nat.reduceSub])
  (refine aqP (op_fa_ptr rfl rfl rfl fl29_2 (by exact sz3) (by decide) rfl) ?_); (simp only [nA, Nat.reduceBEq, Nat.reduceEqDiff, ↓reduceIte, Nat.reduceAdd, Nat.reduceSub])
  (refine aqR (op_load_ptr1 rfl rfl rfl rfl ag3 rfl rfl) ?_); (simp only [nA, Nat.reduceBEq, Nat.reduceEqDiff, ↓reduceIte, Nat.reduceAdd, Nat.reduceSub])
  (refine aqP (op_fa_ptr rfl rfl rfl fl29_2 (by exact sz3) (by decide) rfl) ?_); (simp only [nA, Nat.reduceBEq, Nat.reduceEqDiff, ↓reduceIte, Nat.reduceAdd, Nat.reduceSub])
  (refine aqR (op_load_ptr1 rfl rfl rfl rfl ag3 rfl rfl) ?_); (simp only [nA, Nat.reduceBEq, Nat.reduceEqDiff, ↓reduceIte, Nat.reduceAdd, Nat.reduceSub])
  refine aqQ (op_callQ (b := true) rfl en82 (C82) (RL.cons (by exact View.same rfl) (RL.cons (by exact View.same rfl) (RL.nil))) rfl) ?_; (simp only [nA, Nat.reduceBEq, Nat.reduceEqDiff, ↓reduceIte, Nat.reduceAdd, Nat.reduceSub])
  refine AQ.nil ?_
  refine awJ (op_buildSlice rfl [(0, [_]), (1, [_]), (2, [_])] [[_], [_], [_]] Try.underlying27 ze3 rfl (by simp) rfl (by simp) rfl (bl rfl) (by simp [maxLen])) ?_; (simp only [nA, Nat.reduceBEq, Nat.reduceEqDiff, ↓reduceIte])
  refine awJ (OpQ.j (op_callQ (b := true) rfl en81 (C81) (RL.cons (by exact View.src (.sl rfl rfl)) (RL.nil)) rfl)) ?_; (simp only [nA, Nat.reduceBEq, Nat.reduceEqDiff, ↓reduceIte, Nat.reduceAdd, Nat.reduceSub])
  refine awP (op_assign rfl rfl) ?_; (simp only [nA])
  refine AWL.nil ?_
  (refine hK _ ?_; clear hK K; (skip))
  skip
  refine AW.ret ?_; exact RQ.of0 rfl (.tmp (bl rfl) rfl rfl .nil)
def sumW (l : List Piece) : Int := (l.map Piece.weight).sum
theorem sum_bd : ∀ (l : List Piece), (∀ p ∈ l, 0 ≤ p.weight ∧ p.weight ≤ 1000) → 0 ≤ sumW l ∧ sumW l ≤ 1000 * l.length
  | [], _ => by simp [sumW]
  | p :: l, h => by
    have := sum_bd l fun q hq => h q (by simp [hq])
    have := h p (by simp)
    simp [sumW] at *
    omega
end Go.Proofs.Ytdnofpggdddimaa
namespace Go.Proofs.Ytdnofpggdddimaa
open Go.RowKit
set_option linter.unusedSimpArgs false
set_option linter.unusedVariables false
set_option maxRecDepth 100000
def bitB (cats cat : Int) : Bool := decide (IntKind.i64.wrap ((BitVec.ofInt 64 (cats.fdiv (2 ^ min cat.toNat 64)) &&& BitVec.ofInt 64 1).toNat) = 1)
def coB (c : Container) : Bool := (((((inB c.number 1 999 && flB c.flight) && inB c.categories 0 31) && inB c.limit 0 20000) && inB c.most 0 60) && inB c.position 0 24) && inB c.arm (-50) 50
def piB (p : Piece) : Bool := (plB p.plate && inB p.weight 1 999) && inB p.category 0 4
theorem C94 {c : Container} : Fn Try.prog 94 [] [.agg c.av] [.v (.bool (coB c))] [] := by
  refine Spec.body Try.func94 rfl Try.ntmps94 (by simp) rfl ?_; intro S0 own0 v0 w0
  (refine AW.seq_k ?_; intro K hK)
  refine AW.region ?_
  refine awJ (op_box rfl rfl rfl sz77 rfl) ?_; (simp only [nA, Nat.reduceBEq, Nat.reduceEqDiff, ↓reduceIte])
  refine awP (op_assign rfl rfl) ?_
  refine AWL.nil ?_
  (refine hK _ ?_; clear hK K; (simp only [nA, Nat.reduceBEq, Nat.reduceEqDiff, ↓reduceIte, Nat.reduceAdd, Nat.reduceSub]))
  (refine AW.seq_k ?_; intro K hK)
  refine AW.region (AWL.quiet ?_)
  (refine aqP (op_fa_ptr rfl rfl rfl fl77_0 (by exact sz3) (by decide) rfl) ?_)
  (refine aqR (op_load_ptr1 rfl rfl rfl rfl ag3 rfl rfl) ?_)
  refine aqQ (op_callQ (b := true) rfl en101 (C101) (RL.cons (by exact View.same rfl) (RL.cons (by exact View.same rfl) (RL.cons (by exact View.same rfl) (RL.nil)))) rfl) ?_; (simp only [nA, Nat.reduceBEq, Nat.reduceEqDiff, ↓reduceIte, Nat.reduceAdd, Nat.reduceSub])
  refine aqP (op_move rfl rfl) ?_
  refine' aqAnd' [_, _, _] [7,8,9] rfl rfl rfl rfl rfl rfl rfl rfl rfl rfl rfl rfl (fun hb => ?_) ?_; rotate_left
  ·
   (try simp only [hcS] at hb)
   (refine aqP (op_fa_ptr rfl rfl rfl fl77_1 (by exact sz73) (by decide) rfl) ?_)
   (refine aqR (op_load_ptr rfl rfl rfl rfl ag73 sz73 (bl rfl) rfl) ?_)
   refine aqQ (op_callQ (b := true) rfl en80 (C80) (RL.cons (by exact View.same rfl) (RL.nil)) rfl) ?_; (simp only [nA])
   (refine aqSeg rfl rfl rfl ?_; repeat (first | exact fun _ _ => rfl | refine upd_out rfl ?_))
  simp only [nA]
  refine aqP (op_move rfl rfl) ?_
  refine' aqAnd' [_, _, _] [12,13,14] rfl rfl rfl rfl rfl rfl rfl rfl rfl rfl rfl rfl (fun hb => ?_) ?_; rotate_left
  ·
   (try simp only [hcS] at hb)
   (refine aqP (op_fa_ptr rfl rfl rfl fl77_2 (by exact sz3) (by decide) rfl) ?_)
   (refine aqR (op_load_ptr1 rfl rfl rfl rfl ag3 rfl rfl) ?_)
   refine aqQ (op_callQ (b := true) rfl en101 (C101) (RL.cons (by exact View.same rfl) (RL.cons (by exact View.same rfl) (RL.cons (by exact View.same rfl) (RL.nil)))) rfl) ?_; (simp only [nA])
   (refine aqSeg rfl rfl rfl ?_; repeat (first | exact fun _ _ => rfl | refine upd_out rfl ?_))
  simp only [nA]
  refine aqP (op_move rfl rfl) ?_
  refine' aqAnd' [_, _, _] [17,18,19] rfl rfl rfl rfl rfl rfl rfl rfl rfl rfl rfl rfl (fun hb => ?_) ?_; rotate_left
  ·
   (try simp only [hcS] at hb)
   (refine aqP (op_fa_ptr rfl rfl rfl fl77_3 (by exact sz3) (by decide) rfl) ?_)
   (refine aqR (op_load_ptr1 rfl rfl rfl rfl ag3 rfl rfl) ?_)
   refine aqQ (op_callQ (b := true) rfl en101 (C101) (RL.cons (by exact View.same rfl) (RL.cons (by exact View.same rfl) (RL.cons (by exact View.same rfl) (RL.nil)))) rfl) ?_; (simp only [nA])
   (refine aqSeg rfl rfl rfl ?_; repeat (first | exact fun _ _ => rfl | refine upd_out rfl ?_))
  simp only [nA]
  refine aqP (op_move rfl rfl) ?_
  refine' aqAnd' [_, _, _] [22,23,24] rfl rfl rfl rfl rfl rfl rfl rfl rfl rfl rfl rfl (fun hb => ?_) ?_; rotate_left
  ·
   (try simp only [hcS] at hb)
   (refine aqP (op_fa_ptr rfl rfl rfl fl77_4 (by exact sz3) (by decide) rfl) ?_)
   (refine aqR (op_load_ptr1 rfl rfl rfl rfl ag3 rfl rfl) ?_)
   refine aqQ (op_callQ (b := true) rfl en101 (C101) (RL.cons (by exact View.same rfl) (RL.cons (by exact View.same rfl) (RL.cons (by exact View.same rfl) (RL.nil)))) rfl) ?_; (simp only [nA])
   (refine aqSeg rfl rfl rfl ?_; repeat (first | exact fun _ _ => rfl | refine upd_out rfl ?_))
  simp only [nA]
  refine aqP (op_move rfl rfl) ?_
  refine' aqAnd' [_, _, _] [27,28,29] rfl rfl rfl rfl rfl rfl rfl rfl rfl rfl rfl rfl (fun hb => ?_) ?_; rotate_left
  ·
   (try simp only [hcS] at hb)
   (refine aqP (op_fa_ptr rfl rfl rfl fl77_5 (by exact sz3) (by decide) rfl) ?_)
   (refine aqR (op_load_ptr1 rfl rfl rfl rfl ag3 rfl rfl) ?_)
   refine aqQ (op_callQ (b := true) rfl en101 (C101) (RL.cons (by exact View.same rfl) (RL.cons (by exact View.same rfl) (RL.cons (by exact View.same rfl) (RL.nil)))) rfl) ?_; (simp only [nA])
   (refine aqSeg rfl rfl rfl ?_; repeat (first | exact fun _ _ => rfl | refine upd_out rfl ?_))
  simp only [nA]
  refine aqP (op_move rfl rfl) ?_
  refine' aqAnd' [_, _, _] [32,33,34] rfl rfl rfl rfl rfl rfl rfl rfl rfl rfl rfl rfl (fun hb => ?_) ?_; rotate_left
  ·
   (try simp only [hcS] at hb)
   (refine aqP (op_fa_ptr rfl rfl rfl fl77_6 (by exact sz3) (by decide) rfl) ?_)
   (refine aqR (op_load_ptr1 rfl rfl rfl rfl ag3 rfl rfl) ?_)
   refine aqQ (op_callQ (b := true) rfl en101 (C101) (RL.cons (by exact View.same rfl) (RL.cons (by exact View.same rfl) (RL.cons (by exact View.same rfl) (RL.nil)))) rfl) ?_; (simp only [nA])
   (refine aqSeg rfl rfl rfl ?_; repeat (first | exact fun _ _ => rfl | refine upd_out rfl ?_))
  simp only [nA]
  refine aqP (op_assign rfl rfl) ?_
  refine AQ.nil ?_
  (refine hK _ ?_; clear hK K; (simp only [nA]))
  skip
  refine AW.ret ?_; exact RQ.of0 rfl (.tmp (bl rfl) rfl rfl .nil)
theorem C95 {p : Piece} : Fn Try.prog 95 [] [.agg p.av] [.v (.bool (piB p))] [] := by
  refine Spec.body Try.func95 rfl Try.ntmps95 (by simp) rfl ?_; intro S0 own0 v0 w0
  (refine AW.seq_k ?_; intro K hK)
  refine AW.region ?_
  refine awJ (op_box rfl rfl rfl sz31 rfl) ?_; (simp only [nA, Nat.reduceBEq, Nat.reduceEqDiff, ↓reduceIte])
  refine awP (op_assign rfl rfl) ?_
  refine AWL.nil ?_
  (refine hK _ ?_; clear hK K; (simp only [nA, Nat.reduceBEq, Nat.reduceEqDiff, ↓reduceIte, Nat.reduceAdd, Nat.reduceSub]))
  (refine AW.seq_k ?_; intro K hK)
  refine AW.region (AWL.quiet ?_)
  (refine aqP (op_fa_ptr rfl rfl rfl fl31_0 (by exact sz29) (by decide) rfl) ?_)
  (refine aqR (op_load_ptr rfl rfl rfl rfl ag29 sz29 (bl rfl) rfl) ?_)
  refine aqQ (op_callQ (b := true) rfl en72 (C72) (RL.cons (by exact View.same rfl) (RL.nil)) rfl) ?_; (simp only [nA, Nat.reduceBEq, Nat.reduceEqDiff, ↓reduceIte, Nat.reduceAdd, Nat.reduceSub])
  refine aqP (op_move rfl rfl) ?_
  refine' aqAnd' [_, _, _] [7,8,9] rfl rfl rfl rfl rfl rfl rfl rfl rfl rfl rfl rfl (fun hb => ?_) ?_; rotate_left
  ·
   (try simp only [hcS] at hb)
   (refine aqP (op_fa_ptr rfl rfl rfl fl31_1 (by exact sz3) (by decide) rfl) ?_)
   (refine aqR (op_load_ptr1 rfl rfl rfl rfl ag3 rfl rfl) ?_)
   refine aqQ (op_callQ (b := true) rfl en101 (C101) (RL.cons (by exact View.same rfl) (RL.cons (by exact View.same rfl) (RL.cons (by exact View.same rfl) (RL.nil)))) rfl) ?_; (simp only [nA])
   (refine aqSeg rfl rfl rfl ?_; repeat (first | exact fun _ _ => rfl | refine upd_out rfl ?_))
  simp only [nA]
  refine aqP (op_move rfl rfl) ?_
  refine' aqAnd' [_, _, _] [12,13,14] rfl rfl rfl rfl rfl rfl rfl rfl rfl rfl rfl rfl (fun hb => ?_) ?_; rotate_left
  ·
   (try simp only [hcS] at hb)
   (refine aqP (op_fa_ptr rfl rfl rfl fl31_2 (by exact sz3) (by decide) rfl) ?_)
   (refine aqR (op_load_ptr1 rfl rfl rfl rfl ag3 rfl rfl) ?_)
   refine aqQ (op_callQ (b := true) rfl en101 (C101) (RL.cons (by exact View.same rfl) (RL.cons (by exact View.same rfl) (RL.cons (by exact View.same rfl) (RL.nil)))) rfl) ?_; (simp only [nA])
   (refine aqSeg rfl rfl rfl ?_; repeat (first | exact fun _ _ => rfl | refine upd_out rfl ?_))
  simp only [nA]
  refine aqP (op_assign rfl rfl) ?_
  refine AQ.nil ?_
  (refine hK _ ?_; clear hK K; (simp only [nA]))
  skip
  refine AW.ret ?_; exact RQ.of0 rfl (.tmp (bl rfl) rfl rfl .nil)
end Go.Proofs.Ytdnofpggdddimaa
namespace Go.Proofs.Ytdnofpggdddimaa
open Go.RowKit
set_option linter.unusedSimpArgs false
set_option linter.unusedVariables false
set_option maxRecDepth 100000
def errI (l : List Piece) (i : Nat) : Int :=
  match l[i]? with
  | none => 0
  | some p => if piB p = false then 1 else if i = 0 then 0 else
    match l[i - 1]? with
    | none => 0
    | some q => if cmpP q.plate p.plate = 0 then 5 else if cmpP q.plate p.plate = 1 then 9 else 0
def valP (l : List Piece) : Int := orL ((List.range l.length).map (errI l))
def valC (c : Container) : Int := if coB c = false then 1 else if c.pieces.length > 60 then 2 else valP c.pieces
theorem errI_at {l : List Piece} {i : Nat} (h : i < l.length) : errI l i = if piB l[i] = false then 1 else if i = 0 then 0 else if cmpP l[i - 1].plate l[i].plate = 0 then 5 else if cmpP l[i - 1].plate l[i].plate = 1 then 9 else 0 := by
  unfold errI
  rw [List.getElem?_eq_getElem h, List.getElem?_eq_getElem (show i - 1 < l.length by omega)]
theorem mem_take_range {f : Nat → Int} {n i : Nat} {x : Int} (h : x ∈ ((List.range n).map f).take i) : ∃ k, k < i ∧ x = f k := by
  rw [← List.map_take, List.take_range] at h
  obtain ⟨k, hk, rfl⟩ := List.mem_map.1 h
  exact ⟨k, by have := List.mem_range.1 hk; omega, rfl⟩
theorem val_err {c : Container} {i : Nat} {e : Int} (h1 : coB c = true) (h2 : c.pieces.length ≤ 60) (hi : i < c.pieces.length) (hz : ∀ k, k < i → errI c.pieces k = 0) (he : errI c.pieces i = e) (h0 : e ≠ 0) : valC c = e := by
  unfold valC valP
  rw [if_neg (by simp [h1]), if_neg (by omega), orL_yes (i := i) (by simpa using hi) (fun x hx => ?_) (by simp [he, h0])]
  · simp [he]
  obtain ⟨k, hk, rfl⟩ := mem_take_range hx; exact hz k hk
theorem val_ok {c : Container} {i : Nat} (h1 : coB c = true) (h2 : c.pieces.length ≤ 60) (hi : ¬ i < c.pieces.length) (hz : ∀ k, k < i → errI c.pieces k = 0) : valC c = 0 := by
  unfold valC valP
  rw [if_neg (by simp [h1]), if_neg (by omega), orL_no (i := i) (by simpa using hi) (fun x hx => ?_)]
  obtain ⟨k, hk, rfl⟩ := mem_take_range hx; exact hz k hk
theorem all_step {f : Nat → Int} {i : Nat} (h : ∀ k, k < i → f k = 0) (h2 : f i = 0) : ∀ k, k < i + 1 → f k = 0 := fun k hk => by
  by_cases e : k = i
  · rw [e, h2]
  exact h k (by omega)
theorem C83 {c : Container} : Fn Try.prog 83 [] [.agg c.av] [.v (.int .i64 (valC c))] [] := by
  refine Spec.body Try.func83 rfl Try.ntmps83 (by simp) rfl ?_; intro S0 own0 v0 w0
  (refine AW.seq_k ?_; intro K hK)
  refine AW.region ?_
  refine awJ (op_box rfl rfl rfl sz77 rfl) ?_; (simp only [nA, Nat.reduceBEq, Nat.reduceEqDiff, ↓reduceIte])
  refine awP (op_assign rfl rfl) ?_
  refine AWL.nil ?_
  (refine hK _ ?_; clear hK K; (simp only [nA, Nat.reduceBEq, Nat.reduceEqDiff, ↓reduceIte, Nat.reduceAdd, Nat.reduceSub]))
  (refine AW.seq_k ?_; intro K hK)
  (refine AW.seq_k ?_; intro K hK)
  refine AW.region ?_
  (refine awR (op_load_ptr rfl rfl rfl rfl ag77 sz77 (bl rfl) rfl) ?_)
  refine awJ (OpQ.j (op_callQ (b := true) rfl en94 (C94) (RL.cons (by exact View.same rfl) (RL.nil)) rfl)) ?_; (simp only [nA, Nat.reduceBEq, Nat.reduceEqDiff, ↓reduceIte, Nat.reduceAdd, Nat.reduceSub])
  refine awP (op_not rfl rfl rfl) ?_
  refine AWL.nil ?_
  (refine hK _ ?_; clear hK K; (simp only [nA, Nat.reduceBEq, Nat.reduceEqDiff, ↓reduceIte, Nat.reduceAdd, Nat.reduceSub]))
  refine AW.cond rfl rfl rfl (fun hc => ?_) (fun hc => ?_)
  ·
   (try simp only [hcS] at hc); have hc1 := hc
   (refine AW.seq_k ?_; intro K hK)
   refine AW.region ?_
   refine awP (op_assign rfl rfl) ?_
   refine AWL.nil ?_
   (refine hK _ ?_; clear hK K; (simp only [nA, Nat.reduceBEq, Nat.reduceEqDiff, ↓reduceIte, Nat.reduceAdd, Nat.reduceSub]))
   skip
   refine AW.ret ?_; (simp only [thenE, inBlk, Nat.reduceEqDiff, ↓reduceIte]); rw [show valC c = 1 by unfold valC; rw [if_pos hc]]; exact RQ.of0 rfl (.tmp (bl rfl) rfl rfl .nil)
  (try simp only [hcS] at hc); have hc1 := hc
  refine AW.skip ?_
  (refine hK _ ?_; clear hK K; (skip))
  (refine AW.seq_k ?_; intro K hK)
  (refine AW.seq_k ?_; intro K hK)
  refine AW.region ?_
  (refine awP (op_fa_ptr rfl rfl rfl fl77_7 (by exact sz53) (by decide) rfl) ?_)
  (refine awR (op_load_ptr1 rfl rfl rfl rfl ag53 rfl rfl) ?_)
  (refine awP (op_len_ro rfl rfl Try.underlying53 (by exact .inr (.inl ⟨_, rfl, rfl⟩))) ?_)
  refine awP (op_gtr rfl rfl rfl) ?_
  refine AWL.nil ?_
  (refine hK _ ?_; clear hK K; (simp only [nA, Nat.reduceBEq, Nat.reduceEqDiff, ↓reduceIte, Nat.reduceAdd, Nat.reduceSub]))
  refine AW.cond rfl rfl rfl (fun hc => ?_) (fun hc => ?_)
  ·
   (try simp only [hcS] at hc); have hc2 := hc
   (refine AW.seq_k ?_; intro K hK)
   refine AW.region ?_
   refine awP (op_assign rfl rfl) ?_
   refine AWL.nil ?_
   (refine hK _ ?_; clear hK K; (simp only [nA, Nat.reduceBEq, Nat.reduceEqDiff, ↓reduceIte, Nat.reduceAdd, Nat.reduceSub]))
   skip
   refine AW.ret ?_; (simp only [thenE, inBlk, Nat.reduceEqDiff, ↓reduceIte]); rw [show valC c = 2 by unfold valC; rw [if_neg (by simp [hc1]), if_pos (by omega)]]; exact RQ.of0 rfl (.tmp (bl rfl) rfl rfl .nil)
  (try simp only [hcS] at hc); have hc2 := hc
  refine AW.skip ?_
  (refine hK _ ?_; clear hK K; (skip))
  (refine AW.seq_k ?_; intro K hK)
  (refine AW.seq_k ?_; intro K hK)
  refine AW.region ?_
  (refine awP (op_fa_ptr rfl rfl rfl fl77_7 (by exact sz53) (by decide) rfl) ?_)
  (refine awR (op_load_ptr1 rfl rfl rfl rfl ag53 rfl rfl) ?_)
  (refine awP (op_len_ro rfl rfl Try.underlying53 (by exact .inr (.inl ⟨_, rfl, rfl⟩))) ?_)
  refine awP (op_move rfl rfl) ?_
  refine AWL.nil ?_
  (refine hK _ ?_; clear hK K; (simp only [nA, Nat.reduceBEq, Nat.reduceEqDiff, ↓reduceIte, Nat.reduceAdd, Nat.reduceSub]))
  refine AW.block ?_
  refine AW.loopI (fun i => [(1, .ptr 0 1 0 0), (13, .ro (c.pieces.map Piece.av)), (14, .v (.int .i64 c.pieces.length)), (15, .v (.int .i64 (i : Nat)))]) (fun i => ⟨[(1, .own 77 [c.av])], 2 + i⟩) (fun i => i ≤ c.pieces.length ∧ ∀ k, k < i → errI c.pieces k = 0) (fun i => c.pieces.length - i) 0 (by simp) ⟨rfl, rfl, rfl, rfl, trivial⟩ rfl ?_; intro i ρ hi; simp only [updL]
  (refine AW.seq_k ?_; intro K hK)
  refine AW.region ?_
  refine awP (op_lss rfl rfl rfl) ?_
  refine AWL.nil ?_
  (refine hK _ ?_; clear hK K; (simp only [nA, Nat.reduceBEq, Nat.reduceEqDiff, ↓reduceIte, Nat.reduceAdd, Nat.reduceSub]))
  (refine AW.seq_k ?_; intro K hK)
  refine AW.cond rfl rfl rfl (fun hc => ?_) (fun hc => ?_)
  ·
   (try simp only [hcS] at hc); have hc3 := hc
   refine AW.skip ?_
   (refine hK _ ?_; clear hK K; (skip))
   (refine AW.seq_k ?_; intro K hK)
   refine AW.block ?_
   (refine AW.seq_k ?_; intro K hK)
   refine AW.region ?_
   refine awP (op_move rfl rfl) ?_
   (refine awP (op_ia_ro _ rfl (.inl rfl) rfl Try.underlying53 rfl (get_map (by omega)) (by exact sz31) (bl rfl)) ?_)
   (refine awR (op_load_rop rfl rfl ag31 sz31 (bl rfl) (by decide) rfl) ?_)
   refine awJ (op_alloc rfl ze31 rfl) ?_; (simp only [nA, ↓reduceIte])
   refine awP (op_assign rfl rfl) ?_
   refine awJ (op_store rfl rfl rfl rfl rfl rfl sz31 rfl (bl rfl) rfl) ?_; (simp only [nA, Nat.reduceBEq, Nat.reduceEqDiff, ↓reduceIte])
   refine AWL.nil ?_
   (refine hK _ ?_; clear hK K; (skip))
   (refine AW.seq_k ?_; intro K hK)
   (refine AW.seq_k ?_; intro K hK)
   refine AW.region ?_
   (refine awR (op_load_ptr rfl rfl rfl rfl ag31 sz31 (bl rfl) rfl) ?_)
   refine awJ (OpQ.j (op_callQ (b := true) rfl en95 (C95) (RL.cons (by exact View.same rfl) (RL.nil)) rfl)) ?_; (simp only [nA, Nat.reduceBEq, Nat.reduceEqDiff, ↓reduceIte, Nat.reduceAdd, Nat.reduceSub])
   refine awP (op_not rfl rfl rfl) ?_
   refine AWL.nil ?_
   (refine hK _ ?_; clear hK K; (simp only [nA, Nat.reduceBEq, Nat.reduceEqDiff, ↓reduceIte, Nat.reduceAdd, Nat.reduceSub]))
   refine AW.cond rfl rfl rfl (fun hc => ?_) (fun hc => ?_)
   ·
    (try simp only [hcS] at hc); have hc4 := hc
    (refine AW.seq_k ?_; intro K hK)
    refine AW.region ?_
    refine awP (op_assign rfl rfl) ?_
    refine AWL.nil ?_
    (refine hK _ ?_; clear hK K; (simp only [nA, Nat.reduceBEq, Nat.reduceEqDiff, ↓reduceIte, Nat.reduceAdd, Nat.reduceSub]))
    skip
    refine AW.ret ?_; (simp only [thenE, inBlk, Nat.reduceEqDiff, ↓reduceIte]); rw [val_err (e := 1) hc1 (by omega) (i := i) (by omega) hi.2 (by rw [errI_at (by omega), if_pos hc4]) (by decide)]; exact RQ.of0 rfl (.tmp (bl rfl) rfl rfl .nil)
   (try simp only [hcS] at hc); have hc4 := hc
   refine AW.skip ?_
   (refine hK _ ?_; clear hK K; (skip))
   (refine AW.seq_k ?_; intro K hK)
   (refine AW.seq_k ?_; intro K hK)
   refine AW.region ?_
   refine awP (op_move rfl rfl) ?_
   (refine awP (op_eql rfl rfl rfl) ?_)
   refine AWL.nil ?_
   (refine hK _ ?_; clear hK K; (simp only [nA, ↓reduceIte]))
   refine AW.cond rfl rfl rfl (fun hc => ?_) (fun hc => ?_)
   ·
    (try simp only [hcS] at hc); have hc5 := hc
    refine AW.exit ?_; (simp only [thenE, inBlk, Nat.reduceEqDiff, ↓reduceIte])
    clear hK K
    (refine hK _ ?_; clear hK K; (skip))
    refine AW.region ?_
    (refine awP (op_addi rfl rfl rfl (by omega)) ?_)
    refine awP (op_move rfl rfl) ?_
    refine AWL.gh (Gh.drop 1) ?_; (simp only [nA])
    refine AWL.nil ?_
    refine ⟨i + 1, ⟨by omega, all_step hi.2 (by rw [errI_at (by omega), if_neg (by simp [hc4]), if_pos (by omega)])⟩, by omega, ⟨rfl, rfl, rfl, rfl, trivial⟩, rfl, rfl⟩
   (try simp only [hcS] at hc); have hc5 := hc
   refine AW.skip ?_
   (refine hK _ ?_; clear hK K; (skip))
   (refine AW.seq_k ?_; intro K hK)
   refine AW.quiet mix (by kernel_rfl) ?_
   (refine aqP (op_fa_ptr rfl rfl rfl fl77_7 (by exact sz53) (by decide) rfl) ?_)
   (refine aqR (op_load_ptr1 rfl rfl rfl rfl ag53 rfl rfl) ?_)
   refine aqP (op_move rfl rfl) ?_
   (refine aqP (op_subi rfl rfl rfl (by omega)) ?_)
   (refine aqP (op_ia_ro (i - 1) rfl (.inl rfl) rfl Try.underlying53 (by omega) (get_map (by omega)) (by exact sz31) (bl rfl)) ?_)
   (refine aqP (op_fa_rop rfl rfl fl31_0 (by exact sz29) (by decide) (bl rfl) rfl) ?_)
   (refine aqR (op_load_rop rfl rfl ag29 sz29 (bl rfl) (by decide) rfl) ?_)
   (refine aqP (op_fa_ptr rfl rfl rfl fl31_0 (by exact sz29) (by decide) rfl) ?_)
   (refine aqR (op_load_ptr rfl rfl rfl rfl ag29 sz29 (bl rfl) rfl) ?_)
   refine aqQ (op_callQ (b := true) rfl en63 (C63) (RL.cons (by exact View.same rfl) (RL.cons (by exact View.same rfl) (RL.nil))) rfl) ?_; (simp only [nA, ↓reduceIte])
   refine AQ.nil ?_
   (refine hK _ ?_; clear hK K; (skip))
   refine AW.block ?_
   (refine AW.seq_k ?_; intro K hK)
   refine AW.region ?_
   (refine awP (op_eql rfl rfl rfl) ?_)
   refine awP (op_assign rfl rfl) ?_
   refine AWL.nil ?_
   (refine hK _ ?_; clear hK K; (simp only [nA]))
   refine AW.cond rfl rfl rfl (fun hc => ?_) (fun hc => ?_)
   ·
    (try simp only [hcS] at hc); have hc6 := hc
    (refine AW.seq_k ?_; intro K hK)
    refine AW.region ?_
    refine awP (op_assign rfl rfl) ?_
    refine AWL.nil ?_
    (refine hK _ ?_; clear hK K; (simp only [nA, Nat.reduceBEq, Nat.reduceEqDiff, ↓reduceIte, Nat.reduceAdd, Nat.reduceSub]))
    skip
    refine AW.ret ?_; (simp only [thenE, inBlk, Nat.reduceEqDiff, ↓reduceIte]); rw [val_err (e := 5) hc1 (by omega) (i := i) (by omega) hi.2 (by rw [errI_at (by omega), if_neg (by simp [hc4]), if_neg (by omega), if_pos hc6]) (by decide)]; exact RQ.of0 rfl (.tmp (bl rfl) rfl rfl .nil)
   (try simp only [hcS] at hc); have hc6 := hc
   (refine AW.seq_k ?_; intro K hK)
   refine AW.region ?_
   (refine awP (op_eql rfl rfl rfl) ?_)
   refine awP (op_assign rfl rfl) ?_
   refine AWL.nil ?_
   (refine hK _ ?_; clear hK K; (simp only [nA]))
   refine AW.cond rfl rfl rfl (fun hc => ?_) (fun hc => ?_)
   ·
    (try simp only [hcS] at hc); have hc7 := hc
    (refine AW.seq_k ?_; intro K hK)
    refine AW.region ?_
    refine awP (op_assign rfl rfl) ?_
    refine AWL.nil ?_
    (refine hK _ ?_; clear hK K; (simp only [nA, Nat.reduceBEq, Nat.reduceEqDiff, ↓reduceIte, Nat.reduceAdd, Nat.reduceSub]))
    skip
    refine AW.ret ?_; (simp only [thenE, inBlk, Nat.reduceEqDiff, ↓reduceIte]); rw [val_err (e := 9) hc1 (by omega) (i := i) (by omega) hi.2 (by rw [errI_at (by omega), if_neg (by simp [hc4]), if_neg (by omega), if_neg hc6, if_pos hc7]) (by decide)]; exact RQ.of0 rfl (.tmp (bl rfl) rfl rfl .nil)
   (try simp only [hcS] at hc); have hc7 := hc
   refine AW.skip ?_
   simp only [thenE, inBlk, Nat.reduceEqDiff, ↓reduceIte]
   (refine hK _ ?_; clear hK K; (skip))
   refine AW.region ?_
   (refine awP (op_addi rfl rfl rfl (by omega)) ?_)
   refine awP (op_move rfl rfl) ?_
   refine AWL.gh (Gh.drop 1) ?_; (simp only [nA])
   refine AWL.nil ?_
   refine ⟨i + 1, ⟨by omega, all_step hi.2 (by rw [errI_at (by omega), if_neg (by simp [hc4]), if_neg (by omega), if_neg hc6, if_neg hc7])⟩, by omega, ⟨rfl, rfl, rfl, rfl, trivial⟩, rfl, rfl⟩
  (try simp only [hcS] at hc); have hc3 := hc
  refine AW.exit ?_; (simp only [thenE, inBlk, Nat.reduceEqDiff, ↓reduceIte])
  clear hK K
  (refine hK _ ?_; clear hK K; (skip))
  (refine AW.seq_k ?_; intro K hK)
  refine AW.region ?_
  refine awP (op_assign rfl rfl) ?_
  refine AWL.nil ?_
  (refine hK _ ?_; clear hK K; (simp only [nA, Nat.reduceBEq, Nat.reduceEqDiff, ↓reduceIte, Nat.reduceAdd, Nat.reduceSub]))
  skip
  refine AW.ret ?_; rw [val_ok hc1 (by omega) (i := i) (by omega) hi.2]; exact RQ.of0 rfl (.tmp (bl rfl) rfl rfl .nil)
end Go.Proofs.Ytdnofpggdddimaa
namespace Go.Proofs.Ytdnofpggdddimaa
open Go.RowKit
set_option linter.unusedSimpArgs false
set_option linter.unusedVariables false
set_option maxRecDepth 100000
def posP (l : List Piece) (p : Plate) : Nat := (l.takeWhile fun x => decide (cmpP x.plate p < 0)).length
instance : Inhabited Piece := ⟨⟨⟨0, 0, 0⟩, 0, 0⟩⟩
theorem get_mapD {α β : Type} [Inhabited α] {f : α → β} {xs : List α} {m : Nat} (h : m < xs.length) : (xs.map f)[m]? = some (f (xs.getD m default)) := by
  rw [List.getD_eq_getElem?_getD]; simp [h]
def foundP (l : List Piece) (p : Plate) : Bool := decide ((posP l p : Int) < (l.length : Int)) && decide ((l.getD (posP l p) default).plate = p)
/-- What lies below a plate lies ahead. -/
def Mono (l : List Piece) (p : Plate) : Prop := ∀ (i j : Nat) (hi : i < l.length) (hj : j < l.length), i ≤ j → cmpP l[j].plate p < 0 → cmpP l[i].plate p < 0
theorem pos_eq {l : List Piece} {p : Plate} {n : Nat} (hn : n ≤ l.length) (h1 : ∀ (i : Nat) (h : i < l.length), i < n → cmpP l[i].plate p < 0) (h2 : ∀ (i : Nat) (h : i < l.length), n ≤ i → ¬ cmpP l[i].plate p < 0) : posP l p = n := by
  unfold posP
  have e : l.takeWhile (fun x => decide (cmpP x.plate p < 0)) = l.take n := by
    conv => lhs; rw [← List.take_append_drop n l]
    rw [List.takeWhile_append_of_pos]
    · have : (l.drop n).takeWhile (fun x => decide (cmpP x.plate p < 0)) = [] := by
        rcases Nat.lt_or_ge n l.length with h | h
        · rw [List.drop_eq_getElem_cons h, List.takeWhile_cons_of_neg (by simpa using h2 n h (Nat.le_refl _))]
        rw [List.drop_eq_nil_of_le h]; rfl
      rw [this, List.append_nil]
    intro x hx
    obtain ⟨i, hi, rfl⟩ := List.getElem_of_mem hx
    simp at hi
    simpa using h1 i (by omega) (by omega)
  rw [e]; simp; omega
end Go.Proofs.Ytdnofpggdddimaa
namespace Go.Proofs.Ytdnofpggdddimaa
open Go.RowKit
set_option linter.unusedSimpArgs false
set_option linter.unusedVariables false
set_option maxRecDepth 100000
def PLt (p q : Plate) : Prop := p.lead < q.lead ∨ (p.lead = q.lead ∧ (p.airline < q.airline ∨ (p.airline = q.airline ∧ p.serial < q.serial)))
theorem or3 (a b c : Int) : orL [a, b, c] = if a ≠ 0 then a else if b ≠ 0 then b else c := by
  unfold orL
  by_cases h1 : a = 0 <;> by_cases h2 : b = 0 <;> by_cases h3 : c = 0 <;> simp [h1, h2, h3]
theorem cmpI_cases (a b : Int) : (a < b ∧ cmpI a b = -1) ∨ (a = b ∧ cmpI a b = 0) ∨ (b < a ∧ cmpI a b = 1) := by
  unfold cmpI
  by_cases h1 : a < b
  · rw [if_pos h1]; exact .inl ⟨h1, rfl⟩
  rw [if_neg h1]
  by_cases h2 : a > b
  · rw [if_pos h2]; exact .inr (.inr ⟨h2, rfl⟩)
  rw [if_neg h2]; exact .inr (.inl ⟨by omega, rfl⟩)
theorem cmpP_cases (p q : Plate) : (PLt p q ∧ cmpP p q = -1) ∨ (p = q ∧ cmpP p q = 0) ∨ (PLt q p ∧ cmpP p q = 1) := by
  obtain ⟨a, b, c⟩ := p
  obtain ⟨a', b', c'⟩ := q
  unfold cmpP PLt
  rw [or3]
  simp only [Plate.mk.injEq]
  rcases cmpI_cases a a' with ⟨h1, e1⟩ | ⟨h1, e1⟩ | ⟨h1, e1⟩ <;> rcases cmpI_cases b b' with ⟨h2, e2⟩ | ⟨h2, e2⟩ | ⟨h2, e2⟩ <;> rcases cmpI_cases c c' with ⟨h3, e3⟩ | ⟨h3, e3⟩ | ⟨h3, e3⟩ <;> simp [e1, e2, e3] <;> omega
theorem PLt.trans {p q r : Plate} (h : PLt p q) (h' : PLt q r) : PLt p r := by unfold PLt at *; omega
theorem PLt.irrefl (p : Plate) : ¬ PLt p p := by unfold PLt; omega
theorem cmpP_lt {p q : Plate} : cmpP p q < 0 ↔ PLt p q := by
  rcases cmpP_cases p q with ⟨h, e⟩ | ⟨h, e⟩ | ⟨h, e⟩
  · simp [h, e]
  · subst h; simp [e, PLt.irrefl]
  rw [e]; exact ⟨fun h => by omega, fun h' => absurd (h.trans h') (PLt.irrefl _)⟩
/-- Ascending by the plates. -/
def Asc (l : List Piece) : Prop := ∀ (i j : Nat) (hi : i < l.length) (hj : j < l.length), i < j → PLt l[i].plate l[j].plate
theorem Asc.of_next {l : List Piece} (h : ∀ (i : Nat) (hi : i + 1 < l.length), PLt l[i].plate l[i + 1].plate) : Asc l := by
  intro i j hi hj hij
  induction j with
  | zero => omega
  | succ j ih =>
    by_cases e : i = j
    · subst e; exact h i hj
    exact (ih (by omega) (by omega)).trans (h j hj)
theorem Asc.mono {l : List Piece} (h : Asc l) (q : Plate) : Mono l q := fun i j hi hj hij hlt => by
  rw [cmpP_lt] at *
  by_cases e : i = j
  · subst e; exact hlt
  exact (h i j hi hj (by omega)).trans hlt
theorem val_inv {c : Container} (h : valC c = 0) : coB c = true ∧ c.pieces.length ≤ 60 ∧ (∀ p ∈ c.pieces, piB p = true) ∧ Asc c.pieces := by
  unfold valC at h
  split at h
  · cases h
  split at h
  · cases h
  rename_i h1 h2
  have hz : ∀ k, k < c.pieces.length → errI c.pieces k = 0 := by
    unfold valP orL at h
    intro k hk
    cases hf : ((List.range c.pieces.length).map (errI c.pieces)).find? (fun x => decide (x ≠ 0)) with
    | none =>
      have := List.find?_eq_none.1 hf (errI c.pieces k) (List.mem_map_of_mem (List.mem_range.2 hk))
      simpa using this
    | some x =>
      rw [hf] at h
      have := List.find?_some hf
      simp only [Option.getD_some] at h
      simp [h] at this
  have hp : ∀ k (hk : k < c.pieces.length), piB c.pieces[k] = true := fun k hk => by
    have := hz k hk
    rw [errI_at hk] at this
    split at this
    · cases this
    rename_i h; simpa using h
  refine ⟨by simpa using h1, by omega, fun p hp' => ?_, Asc.of_next fun i hi => ?_⟩
  · obtain ⟨k, hk, rfl⟩ := List.getElem_of_mem hp'
    exact hp k hk
  have := hz (i + 1) hi
  rw [errI_at hi, if_neg (by simp [hp (i + 1) hi]), if_neg (by omega)] at this
  simp only [Nat.add_sub_cancel] at this
  rcases cmpP_cases c.pieces[i].plate c.pieces[i + 1].plate with ⟨h, e⟩ | ⟨h, e⟩ | ⟨h, e⟩
  · exact h
  · rw [if_pos e] at this; cases this
  rw [if_neg (by omega), if_pos e] at this; cases this
theorem piB_inv {p : Piece} (h : piB p = true) : plB p.plate = true ∧ 1 ≤ p.weight ∧ p.weight ≤ 999 ∧ 0 ≤ p.category ∧ p.category ≤ 4 := by
  unfold piB inB at h
  simp only [Bool.and_eq_true, decide_eq_true_eq, ge_iff_le] at h
  exact ⟨h.1.1, by omega, by omega, by omega, by omega⟩
theorem val_w {c : Container} (h : valC c = 0) : ∀ p ∈ c.pieces, 0 ≤ p.weight ∧ p.weight ≤ 1000 := fun p hp => by
  have := piB_inv ((val_inv h).2.2.1 p hp); omega
end Go.Proofs.Ytdnofpggdddimaa
namespace Go.Proofs.Ytdnofpggdddimaa
open Go.RowKit
set_option linter.unusedSimpArgs false
set_option linter.unusedVariables false
set_option maxRecDepth 100000
theorem pl73 : plIs Try.prog 73 [(0, 1), (1, 1), (2, 1), (3, 1)] := ⟨_, Try.underlying73, by kernel_rfl⟩
theorem pl77 : plIs Try.prog 77 [(0, 1), (1, 4), (5, 1), (6, 1), (7, 1), (8, 1), (9, 1), (10, 1)] := ⟨_, Try.underlying77, by kernel_rfl⟩
theorem pl29 : plIs Try.prog 29 [(0, 1), (1, 1), (2, 1)] := ⟨_, Try.underlying29, by kernel_rfl⟩
theorem pl31 : plIs Try.prog 31 [(0, 3), (3, 1), (4, 1)] := ⟨_, Try.underlying31, by kernel_rfl⟩
theorem pl81 : plIs Try.prog 81 [(0, 1), (1, 1)] := ⟨_, Try.underlying81, by kernel_rfl⟩
theorem pl120 : plIs Try.prog 120 [(0, 4), (4, 1)] := ⟨_, Try.underlying120, by kernel_rfl⟩
abbrev zeroC : Container := ⟨0, ⟨⟨#[]⟩, 0, ⟨#[]⟩, 0⟩, 0, 0, 0, 0, 0, []⟩
theorem zero_le : RL Le1 ([[AV.v (.int .i64 0), .v (.string ⟨#[]⟩), .v (.int .i64 0), .v (.string ⟨#[]⟩), .v (.int .i64 0), .v (.int .i64 0), .v (.int .i64 0), .v (.int .i64 0), .v (.int .i64 0), .v (.int .i64 0), .v (.slice none 0 0)]] : List (List AV)).flatten [zeroC.av].flatten := by
  refine ⟨rfl, fun i u x hu hx => ?_⟩
  rcases i with _ | _ | _ | _ | _ | _ | _ | _ | _ | _ | _ | i <;> simp at hu hx <;> subst hu <;> subst hx <;> first | exact .same | exact .nil
def fullB (c : Container) (p : Piece) : Bool := decide ((c.pieces.length : Int) ≥ c.most) || decide (sumW c.pieces + p.weight > c.limit)
def insC (c : Container) (p : Piece) : Container := { c with pieces := c.pieces.take (posP c.pieces p.plate) ++ p :: c.pieces.drop (posP c.pieces p.plate) }
def putC (c : Container) (p : Piece) (lim : Bool) : Container × Int :=
  if valC c ≠ 0 then (zeroC, valC c) else if piB p = false then (zeroC, 1) else if foundP c.pieces p.plate = true then (zeroC, 5)
  else if (lim && !bitB c.categories p.category) = true then (zeroC, 4) else if (lim && fullB c p) = true then (zeroC, 8)
  else if (c.pieces.length : Int) ≥ 60 then (zeroC, 2) else (insC c p, 0)
end Go.Proofs.Ytdnofpggdddimaa
namespace Go.Proofs.Ytdnofpggdddimaa
open Go.RowKit
set_option linter.unusedSimpArgs false
set_option linter.unusedVariables false
set_option maxRecDepth 100000
def weightC (c : Container) : Int := if valC c ≠ 0 then 0 else sumW c.pieces
def overC (c : Container) : Bool := if valC c ≠ 0 then false else if c.pieces.all (fun p => bitB c.categories p.category) = false then true else decide (weightC c > c.limit) || decide ((c.pieces.length : Int) > c.most)
end Go.Proofs.Ytdnofpggdddimaa
namespace Go.Proofs.Ytdnofpggdddimaa
open Go.RowKit
set_option linter.unusedSimpArgs false
set_option linter.unusedVariables false
set_option maxRecDepth 100000
abbrev iv (n : Int) : List AV := [.v (.int .i64 n)]
abbrev srcRow (l : List Int) (k : Nat) : List AV := [.ro (l.map iv), .v (.int .i64 (k : Nat))]
theorem iv_len (l : List Int) : ∀ x ∈ l.map iv, x.length = 1 := fun x hx => by
  obtain ⟨p, _, rfl⟩ := List.mem_map.1 hx; rfl
theorem one_out {T : Sl} {x : AV} (h : T.slots[0]? = some (0, x)) : ∀ (r : Nat) (y : AV), [x][r]? = some y → T.slots[r]? = some (0, y) := fun r y hy => by
  cases r with
  | zero => simp at hy; subst hy; exact h
  | succ r => simp at hy
theorem C11 {l : List Int} : FnB Try.prog 11 [.ro (l.map iv)] 81 (srcRow (l.take 2000) 0) := by
  refine FnB.body Try.func11 rfl Try.ntmps11 (by simp) sz81 ?_; intro S0 own0 v0 w0
  (refine AW.seq_k ?_; intro K hK)
  refine AW.region ?_
  refine awP (op_assign rfl rfl) ?_
  refine AWL.nil ?_
  (refine hK _ ?_; clear hK K; (simp only [nA, Nat.reduceBEq, Nat.reduceEqDiff, ↓reduceIte, Nat.reduceAdd, Nat.reduceSub]))
  (refine AW.seq_k ?_; intro K hK)
  (refine AW.seq_k ?_; intro K hK)
  refine AW.region ?_
  refine awP (op_move rfl rfl) ?_
  (refine awP (op_len_ro rfl rfl Try.underlying27 (by exact .inr (.inl ⟨_, rfl, rfl⟩))) ?_)
  refine awP (op_gtr rfl rfl rfl) ?_
  refine AWL.nil ?_
  (refine hK _ ?_; clear hK K; (simp only [nA, ↓reduceIte]))
  refine AW.cond rfl rfl rfl (fun hc => ?_) (fun hc => ?_)
  ·
   (try simp only [hcS] at hc); have hc1 := hc
   refine AW.region ?_
   refine awP (op_move rfl rfl) ?_
   refine awP (op_slice_ro 0 2000 rfl (.inl rfl) (by exact rfl) (by exact ⟨_, rfl⟩) (by omega) (by simp; omega) Try.underlying27 sz27 (iv_len l) (es' := (l.take 2000).map iv) (by simp [List.map_take])) ?_; (simp only [nA, ↓reduceIte])
   refine awP (op_assign rfl rfl) ?_
   refine AWL.nil ?_
   (refine hK _ ?_; clear hK K; (simp only [nA]))
   (refine AW.seq_k ?_; intro K hK)
   refine AW.region ?_
   refine awP (op_move rfl rfl) ?_
   refine awP (op_build2 (xs := [_, .v (.int .i64 0)]) rfl pl81 ze81 [(0, [_])] rfl rfl rfl) ?_
   refine awJ (op_box rfl rfl rfl sz81 rfl) ?_; (simp only [nA, Nat.reduceBEq, Nat.reduceEqDiff, ↓reduceIte])
   refine awP (op_assign rfl rfl) ?_
   refine AWL.nil ?_
   (refine hK _ ?_; clear hK K; (simp only [nA]))
   skip
   refine AW.ret ?_; exact ⟨2, 0, 1, rfl, (bl rfl), rfl, rfl⟩
  (try simp only [hcS] at hc); have hc1 := hc
  refine AW.skip ?_
  (refine hK _ ?_; clear hK K; (skip))
  (refine AW.seq_k ?_; intro K hK)
  refine AW.region ?_
  refine awP (op_move rfl rfl) ?_
  refine awP (op_build2 (xs := [_, .v (.int .i64 0)]) rfl pl81 ze81 [(0, [_])] rfl rfl rfl) ?_
  refine awJ (op_box rfl rfl rfl sz81 rfl) ?_; (simp only [nA, Nat.reduceBEq, Nat.reduceEqDiff, ↓reduceIte])
  refine awP (op_assign rfl rfl) ?_
  refine AWL.nil ?_
  (refine hK _ ?_; clear hK K; (simp only [nA]))
  skip
  refine AW.ret ?_; rw [show l.take 2000 = l from List.take_of_length_le (by omega)]; exact ⟨2, 0, 1, rfl, (bl rfl), rfl, rfl⟩
def gmod (x n : Int) : Int := if n < 1 then 0 else if Int.tmod x n < 0 then Int.tmod x n + n else Int.tmod x n
theorem gmod_bd {x n : Int} (h : 1 ≤ n) : 0 ≤ gmod x n ∧ gmod x n < n := by
  unfold gmod
  have h1 : Int.tmod x n < n := Int.tmod_lt_of_pos x (by omega)
  have h2 : -n < Int.tmod x n := Int.lt_tmod_of_pos x (by omega)
  rw [if_neg (by omega)]
  split <;> omega
theorem C41 {x n : Int} (hn : n ≤ 9223372036854775807) : Fn Try.prog 41 [] [.v (.int .i64 x), .v (.int .i64 n)] [.v (.int .i64 (gmod x n))] [] := by
  refine Spec.body Try.func41 rfl Try.ntmps41 (by simp) rfl ?_; intro S0 own0 v0 w0
  (refine AW.seq_k ?_; intro K hK)
  refine AW.region ?_
  refine awP (op_assign rfl rfl) ?_
  refine AWL.nil ?_
  (refine hK _ ?_; clear hK K; (simp only [nA, Nat.reduceBEq, Nat.reduceEqDiff, ↓reduceIte, Nat.reduceAdd, Nat.reduceSub]))
  (refine AW.seq_k ?_; intro K hK)
  (refine AW.seq_k ?_; intro K hK)
  refine AW.region ?_
  refine awP (op_move rfl rfl) ?_
  refine awP (op_lss rfl rfl rfl) ?_
  refine AWL.nil ?_
  (refine hK _ ?_; clear hK K; (simp only [nA, ↓reduceIte]))
  refine AW.cond rfl rfl rfl (fun hc => ?_) (fun hc => ?_)
  ·
   (try simp only [hcS] at hc); have hc1 := hc
   (refine AW.seq_k ?_; intro K hK)
   refine AW.region ?_
   refine awP (op_assign rfl rfl) ?_
   refine AWL.nil ?_
   (refine hK _ ?_; clear hK K; (simp only [nA, Nat.reduceBEq, Nat.reduceEqDiff, ↓reduceIte, Nat.reduceAdd, Nat.reduceSub]))
   skip
   refine AW.ret ?_; (simp only [thenE, inBlk, Nat.reduceEqDiff, ↓reduceIte]); rw [show gmod x n = 0 by unfold gmod; rw [if_pos hc]]; exact RQ.of0 rfl (.tmp (bl rfl) rfl rfl .nil)
  (try simp only [hcS] at hc); have hc1 := hc; have h1 : Int.tmod x n < n := Int.tmod_lt_of_pos x (by omega); have h2 : -n < Int.tmod x n := Int.lt_tmod_of_pos x (by omega)
  refine AW.skip ?_
  (refine hK _ ?_; clear hK K; (skip))
  (refine AW.seq_k ?_; intro K hK)
  refine AW.region ?_
  refine awP (op_move rfl rfl) ?_
  refine awP (op_move rfl rfl) ?_
  refine awP (op_rem rfl rfl rfl (by omega) rfl) ?_
  refine awP (op_assign rfl rfl) ?_
  refine AWL.nil ?_
  (refine hK _ ?_; clear hK K; (simp only [nA, ↓reduceIte]))
  (refine AW.seq_k ?_; intro K hK)
  (refine AW.seq_k ?_; intro K hK)
  refine AW.region ?_
  refine awP (op_move rfl rfl) ?_
  refine awP (op_lss rfl rfl rfl) ?_
  refine AWL.nil ?_
  (refine hK _ ?_; clear hK K; (simp only [nA]))
  refine AW.cond rfl rfl rfl (fun hc => ?_) (fun hc => ?_)
  ·
   (try simp only [hcS] at hc); have hc2 := hc
   refine AW.region ?_
   refine awP (op_move rfl rfl) ?_
   refine awP (op_move rfl rfl) ?_
   (refine awP (op_addi rfl rfl rfl (by omega)) ?_)
   refine awP (op_assign rfl rfl) ?_
   refine AWL.nil ?_
   (refine hK _ ?_; clear hK K; (simp only [nA, ↓reduceIte]))
   (refine AW.seq_k ?_; intro K hK)
   refine AW.region ?_
   refine awP (op_move rfl rfl) ?_
   refine awP (op_assign rfl rfl) ?_
   refine AWL.nil ?_
   (refine hK _ ?_; clear hK K; (simp only [nA]))
   skip
   refine AW.ret ?_; rw [show gmod x n = Int.tmod x n + n by unfold gmod; rw [if_neg (by omega), if_pos (by omega)]]; exact RQ.of0 rfl (.tmp (bl rfl) rfl rfl .nil)
  (try simp only [hcS] at hc); have hc2 := hc
  refine AW.skip ?_
  (refine hK _ ?_; clear hK K; (skip))
  (refine AW.seq_k ?_; intro K hK)
  refine AW.region ?_
  refine awP (op_move rfl rfl) ?_
  refine awP (op_assign rfl rfl) ?_
  refine AWL.nil ?_
  (refine hK _ ?_; clear hK K; (simp only [nA, ↓reduceIte]))
  skip
  refine AW.ret ?_; rw [show gmod x n = Int.tmod x n by unfold gmod; rw [if_neg (by omega), if_neg (by omega)]]; exact RQ.of0 rfl (.tmp (bl rfl) rfl rfl .nil)
def rawV (l : List Int) (k : Nat) : Int := l.getD k default
def rawN (l : List Int) (k : Nat) : Nat := if k < l.length then k + 1 else k
theorem C42 {l : List Int} {k : Nat} (hl : l.length ≤ 2000) : Fn Try.prog 42 [.own 81 [srcRow l k]] [.ptr 0 0 0 0] [.v (.int .i64 (rawV l k))] [.own 81 [srcRow l (rawN l k)]] := by
  refine Spec.body Try.func42 rfl Try.ntmps42 (by simp) rfl ?_; intro S0 own0 v0 w0
  (refine AW.seq_k ?_; intro K hK)
  refine AW.region ?_
  refine awP (op_assign rfl rfl) ?_
  refine AWL.nil ?_
  (refine hK _ ?_; clear hK K; (simp only [nA, Nat.reduceBEq, Nat.reduceEqDiff, ↓reduceIte, Nat.reduceAdd, Nat.reduceSub]))
  (refine AW.seq_k ?_; intro K hK)
  (refine AW.seq_k ?_; intro K hK)
  refine AW.quiet mix (by kernel_rfl) ?_
  refine aqP (op_move rfl rfl) ?_
  (refine aqP (op_nil_slot rfl rfl rfl) ?_)
  (refine aqP (op_fa_ptr rfl rfl rfl fl81_1 (by exact sz3) (by decide) rfl) ?_)
  (refine aqR (op_load_ptr1 rfl rfl rfl rfl ag3 rfl rfl) ?_)
  refine aqP (op_move rfl rfl) ?_
  (refine aqP (op_nil_slot rfl rfl rfl) ?_)
  (refine aqP (op_fa_ptr rfl rfl rfl fl81_0 (by exact sz27) (by decide) rfl) ?_)
  (refine aqR (op_load_ptr1 rfl rfl rfl rfl ag27 rfl rfl) ?_)
  (refine aqP (op_len_ro rfl rfl Try.underlying27 (by exact .inr (.inl ⟨_, rfl, rfl⟩))) ?_)
  refine aqP (op_geq rfl rfl rfl) ?_
  refine AQ.nil ?_
  (refine hK _ ?_; clear hK K; (simp only [nA, ↓reduceIte]))
  refine AW.cond rfl rfl rfl (fun hc => ?_) (fun hc => ?_)
  ·
   (try simp only [hcS] at hc); have hc1 := hc
   (refine AW.seq_k ?_; intro K hK)
   refine AW.region ?_
   refine awP (op_assign rfl rfl) ?_
   refine AWL.nil ?_
   (refine hK _ ?_; clear hK K; (simp only [nA, Nat.reduceBEq, Nat.reduceEqDiff, ↓reduceIte, Nat.reduceAdd, Nat.reduceSub]))
   skip
   refine AW.ret ?_; (simp only [thenE, inBlk, Nat.reduceEqDiff, ↓reduceIte]); rw [show rawV l k = 0 by unfold rawV; rw [List.getD_eq_getElem?_getD, List.getElem?_eq_none (by omega)]; rfl, show rawN l k = k by unfold rawN; rw [if_neg (by omega)]]; exact RQ.of (.inl rfl) rfl (.tmp (bl rfl) rfl rfl .nil) (by simp) rfl (one_out rfl)
  (try simp only [hcS] at hc); have hc1 := hc
  refine AW.skip ?_
  (refine hK _ ?_; clear hK K; (skip))
  (refine AW.seq_k ?_; intro K hK)
  refine AW.region ?_
  refine awP (op_move rfl rfl) ?_
  (refine awP (op_nil_slot rfl rfl rfl) ?_)
  (refine awP (op_fa_ptr rfl rfl rfl fl81_1 (by exact sz3) (by decide) rfl) ?_)
  (refine awR (op_load_ptr1 rfl rfl rfl rfl ag3 rfl rfl) ?_)
  (refine awP (op_addi rfl rfl rfl (by omega)) ?_)
  (refine awP (op_nil_slot rfl rfl rfl) ?_)
  (refine awP (op_fa_ptr rfl rfl rfl fl81_1 (by exact sz3) (by decide) rfl) ?_)
  refine awJ (op_store rfl rfl rfl rfl rfl rfl sz3 rfl (bl rfl) rfl) ?_; (simp only [nA, ↓reduceIte])
  refine AWL.nil ?_
  (refine hK _ ?_; clear hK K; (skip))
  (refine AW.seq_k ?_; intro K hK)
  refine AW.quiet mix (by kernel_rfl) ?_
  refine aqP (op_move rfl rfl) ?_
  (refine aqP (op_nil_slot rfl rfl rfl) ?_)
  (refine aqP (op_fa_ptr rfl rfl rfl fl81_0 (by exact sz27) (by decide) rfl) ?_)
  (refine aqR (op_load_ptr1 rfl rfl rfl rfl ag27 rfl rfl) ?_)
  refine aqP (op_move rfl rfl) ?_
  (refine aqP (op_nil_slot rfl rfl rfl) ?_)
  (refine aqP (op_fa_ptr rfl rfl rfl fl81_1 (by exact sz3) (by decide) rfl) ?_)
  (refine aqR (op_load_ptr1 rfl rfl rfl rfl ag3 rfl rfl) ?_)
  (refine aqP (op_subi rfl rfl rfl (by omega)) ?_)
  (refine aqP (op_ia_ro k rfl (.inl rfl) rfl Try.underlying27 (by omega) (get_mapD (by omega)) (by exact sz3) (bl rfl)) ?_)
  (refine aqR (op_load_rop1 rfl rfl ag3) ?_)
  refine aqP (op_assign rfl rfl) ?_
  refine AQ.nil ?_
  (refine hK _ ?_; clear hK K; (simp only [nA, ↓reduceIte]))
  skip
  refine AW.ret ?_; rw [show rawN l k = k + 1 by unfold rawN; rw [if_pos (by omega)]]; exact RQ.of (.inl rfl) rfl (.tmp (bl rfl) rfl rfl .nil) (by simp) rfl (one_out rfl)
end Go.Proofs.Ytdnofpggdddimaa
namespace Go.Proofs.Ytdnofpggdddimaa
open Go.RowKit
set_option linter.unusedSimpArgs false
set_option linter.unusedVariables false
set_option maxRecDepth 100000
theorem C12 {l : List Int} {k : Nat} {n : Int} (hl : l.length ≤ 2000) (hn : n ≤ 9223372036854775807) : Fn Try.prog 12 [.own 81 [srcRow l k]] [.ptr 0 0 0 0, .v (.int .i64 n)] [.v (.int .i64 (gmod (rawV l k) n))] [.own 81 [srcRow l (rawN l k)]] := by
  refine Spec.body Try.func12 rfl Try.ntmps12 (by simp) rfl ?_; intro S0 own0 v0 w0
  (refine AW.seq_k ?_; intro K hK)
  refine AW.region ?_
  refine awP (op_assign rfl rfl) ?_; (simp only [nA, Nat.reduceBEq, Nat.reduceEqDiff, ↓reduceIte, Nat.reduceAdd, Nat.reduceSub])
  refine AWL.nil ?_
  (refine hK _ ?_; clear hK K; (simp only [nA, Nat.reduceBEq, Nat.reduceEqDiff, ↓reduceIte, Nat.reduceAdd, Nat.reduceSub]))
  (refine AW.seq_k ?_; intro K hK)
  refine AW.region ?_
  refine awP (op_move rfl rfl) ?_; (simp only [nA, ↓reduceIte])
  refine awJ (op_call1 rfl en42 (C42 hl) (by exact rfl) (RL.cons .ptr (RL.nil)) (by exact ⟨_, _, _, rfl, rfl, rfl⟩) (by exact rfl) (by exact rfl) (by exact rfl)) ?_; (simp only [nA, Nat.reduceBEq, Nat.reduceEqDiff, ↓reduceIte, Nat.reduceAdd, Nat.reduceSub])
  refine awP (op_move rfl rfl) ?_; (simp only [nA, ↓reduceIte])
  refine awJ (OpQ.j (op_callQ (b := true) rfl en41 (C41 (by omega)) (RL.cons (by exact View.same rfl) (RL.cons (by exact View.same rfl) (RL.nil))) rfl)) ?_; (simp only [nA, Nat.reduceBEq, Nat.reduceEqDiff, ↓reduceIte, Nat.reduceAdd, Nat.reduceSub])
  refine awP (op_assign rfl rfl) ?_; (simp only [nA])
  refine AWL.nil ?_
  (refine hK _ ?_; clear hK K; (skip))
  skip
  refine AW.ret ?_; exact RQ.of (.inl rfl) rfl (.tmp (bl rfl) rfl rfl .nil) (by simp) rfl (one_out rfl)
def platesP (i : Int) : Plate := ⟨gmod i 1000 / 500, 117 + gmod i 1000 / 100 % 5, 1000 + gmod i 1000 % 100⟩
theorem C57 {i : Int} : Fn Try.prog 57 [] [.v (.int .i64 i)] [.agg (platesP i).av] [] := by
  have hg := gmod_bd (x := i) (n := 1000) (by decide)
  refine Spec.body Try.func57 rfl Try.ntmps57 (by simp) rfl ?_; intro S0 own0 v0 w0
  (refine AW.seq_k ?_; intro K hK)
  refine AW.region ?_
  refine awJ (op_alloc rfl ze29 rfl) ?_; (simp only [nA, Nat.reduceBEq, Nat.reduceEqDiff, ↓reduceIte])
  refine AWL.nil ?_
  (refine hK _ ?_; clear hK K; (simp only [nA, Nat.reduceBEq, Nat.reduceEqDiff, ↓reduceIte, Nat.reduceAdd, Nat.reduceSub]))
  (refine AW.seq_k ?_; intro K hK)
  refine AW.region ?_
  refine awP (op_move rfl rfl) ?_; (simp only [nA, ↓reduceIte])
  refine awJ (OpQ.j (op_callQ (b := true) rfl en41 (C41 (n := 1000) (by decide)) (RL.cons (by exact View.same rfl) (RL.cons (by exact View.same rfl) (RL.nil))) rfl)) ?_; (simp only [nA, Nat.reduceBEq, Nat.reduceEqDiff, ↓reduceIte, Nat.reduceAdd, Nat.reduceSub])
  refine awP (op_assign rfl rfl) ?_; (simp only [nA])
  refine AWL.nil ?_
  (refine hK _ ?_; clear hK K; (skip))
  (refine AW.seq_k ?_; intro K hK)
  refine AW.region ?_
  refine awP (op_move rfl rfl) ?_; (simp only [nA])
  (refine awP (op_quoi rfl rfl rfl (by omega)) ?_); (simp only [nA, Nat.reduceBEq, Nat.reduceEqDiff, ↓reduceIte, Nat.reduceAdd, Nat.reduceSub])
  refine awP (op_move rfl rfl) ?_; (simp only [nA, ↓reduceIte])
  (refine awP (op_quoi rfl rfl rfl (by omega)) ?_); (simp only [nA, Nat.reduceBEq, Nat.reduceEqDiff, ↓reduceIte, Nat.reduceAdd, Nat.reduceSub])
  (refine awP (op_remi rfl rfl rfl (by omega)) ?_); (simp only [nA, Nat.reduceBEq, Nat.reduceEqDiff, ↓reduceIte, Nat.reduceAdd, Nat.reduceSub])
  (refine awP (op_addi rfl rfl rfl (by omega)) ?_); (simp only [nA, Nat.reduceBEq, Nat.reduceEqDiff, ↓reduceIte, Nat.reduceAdd, Nat.reduceSub])
  refine awP (op_move rfl rfl) ?_; (simp only [nA, ↓reduceIte])
  (refine awP (op_remi rfl rfl rfl (by omega)) ?_); (simp only [nA, Nat.reduceBEq, Nat.reduceEqDiff, ↓reduceIte, Nat.reduceAdd, Nat.reduceSub])
  (refine awP (op_addi rfl rfl rfl (by omega)) ?_); (simp only [nA, Nat.reduceBEq, Nat.reduceEqDiff, ↓reduceIte, Nat.reduceAdd, Nat.reduceSub])
  refine awP (op_build2 (xs := [_, _, _]) rfl pl29 ze29 [(0, [_]), (1, [_]), (2, [_])] rfl rfl rfl) ?_; (simp only [nA, ↓reduceIte])
  refine awJ (op_store rfl rfl rfl rfl rfl rfl sz29 rfl (bl rfl) rfl) ?_; (simp only [nA, Nat.reduceBEq, Nat.reduceEqDiff, ↓reduceIte])
  refine AWL.nil ?_
  (refine hK _ ?_; clear hK K; (skip))
  skip
  refine AW.ret ?_; exact RQ.of0 rfl (.cell (bl rfl) rfl rfl rfl ag29 sz29 (bl rfl) rfl rfl .nil)
end Go.Proofs.Ytdnofpggdddimaa
namespace Go.Proofs.Ytdnofpggdddimaa
open Go.RowKit
set_option linter.unusedSimpArgs false
set_option linter.unusedVariables false
set_option maxRecDepth 100000
theorem st73 : Try.prog.stoodInHeld 73 = false := by kernel_rfl
theorem fo73 : Try.prog.underlying 73 = some (.struct (Try.prog.fieldsOf 73)) := by
  unfold Program.fieldsOf; rw [Try.underlying73]
theorem ty73 : Try.prog.eqGuardType Try.prog.depth 73 = false := by kernel_rfl
def flEq (f g : Flight) : Bool := (f.carrier.toList == g.carrier.toList) && ((f.number == g.number) && ((f.suffix.toList == g.suffix.toList) && (f.day == g.day)))
theorem run_neq73 (p q : Flight) (w : World) : (binOp .neq 73 (.agg #[.string p.carrier, .int .i64 p.number, .string p.suffix, .int .i64 p.day]) (.agg #[.string q.carrier, .int .i64 q.number, .string q.suffix, .int .i64 q.day])).run Try.prog w = .ok (.bool (!flEq p q)) w := by
  obtain ⟨a, b, c, d⟩ := p
  obtain ⟨a', b', c', d'⟩ := q
  unfold binOp
  simp only [Op.equal]
  rw [Sem.run_bind, show Op.maxDepth = 9998 + 1 + 1 from rfl, run_equalIn_struct w _ 73 _ _ fo73 st73]
  unfold Program.fieldsOf; rw [Try.underlying73]
  simp only [Op.eqFields]
  go_simp
  unfold flEq
  by_cases h1 : a.toList = a'.toList <;> by_cases h2 : b = b' <;> by_cases h3 : c.toList = c'.toList <;> by_cases h4 : d = d' <;> simp [h1, h2, h3, h4]
theorem run_tyn73 (p q : Operand) (x y : Array Value) (w : World) : (eqGuard .neq 73 p q (.agg x) (.agg y)).run Try.prog w = .ok () w := by
  unfold eqGuard
  simp [ty73, run_program]
theorem st31 : Try.prog.stoodInHeld 31 = false := by kernel_rfl
theorem fo31 : Try.prog.underlying 31 = some (.struct (Try.prog.fieldsOf 31)) := by
  unfold Program.fieldsOf; rw [Try.underlying31]
theorem ty31 : Try.prog.eqGuardType Try.prog.depth 31 = false := by kernel_rfl
def piEq (p q : Piece) : Bool := decide (p.plate = q.plate) && ((p.weight == q.weight) && (p.category == q.category))
theorem run_neq31 (p q : Piece) (w : World) : (binOp .neq 31 (.agg #[.int .i64 p.plate.lead, .int .i64 p.plate.airline, .int .i64 p.plate.serial, .int .i64 p.weight, .int .i64 p.category]) (.agg #[.int .i64 q.plate.lead, .int .i64 q.plate.airline, .int .i64 q.plate.serial, .int .i64 q.weight, .int .i64 q.category])).run Try.prog w = .ok (.bool (!piEq p q)) w := by
  obtain ⟨⟨x, y, z⟩, b, c⟩ := p
  obtain ⟨⟨x', y', z'⟩, b', c'⟩ := q
  unfold binOp
  simp only [Op.equal]
  rw [Sem.run_bind, show Op.maxDepth = 9997 + 1 + 1 + 1 from rfl, run_equalIn_struct w _ 31 _ _ fo31 st31]
  unfold Program.fieldsOf; rw [Try.underlying31]
  simp only [Op.eqFields]
  go_simp
  unfold piEq
  by_cases h1 : x = x' <;> by_cases h4 : y = y' <;> by_cases h5 : z = z' <;> by_cases h2 : b = b' <;> by_cases h3 : c = c' <;> simp [h1, h2, h3, h4, h5]
theorem run_tyn31 (p q : Operand) (x y : Array Value) (w : World) : (eqGuard .neq 31 p q (.agg x) (.agg y)).run Try.prog w = .ok () w := by
  unfold eqGuard
  simp [ty31, run_program]
section
variable {S0 : Nat → Prop} {own0 : List Nat} {v0 : List Value} {w0 : World} {o : Oper} {ev : Operand → AV} {T : Sl} {yt : TypeId} {y z : Operand}
theorem op_neq73 {p q : Flight} (ho : o.op = .binOp .neq 73 y z yt) (hy : ev y = .agg p.av) (hz : ev z = .agg q.av) : OpP ⟨Try.prog, S0, own0, v0, w0⟩ o ev T (.v (.bool (!flEq p q))) :=
  op_bin_agg (xs := [.string p.carrier, .int .i64 p.number, .string p.suffix, .int .i64 p.day]) (ys := [.string q.carrier, .int .i64 q.number, .string q.suffix, .int .i64 q.day]) ho hy hz (fun w => run_tyn73 _ _ _ _ w) (fun w => run_neq73 p q w) rfl
theorem op_neq31 {p q : Piece} (ho : o.op = .binOp .neq 31 y z yt) (hy : ev y = .agg p.av) (hz : ev z = .agg q.av) : OpP ⟨Try.prog, S0, own0, v0, w0⟩ o ev T (.v (.bool (!piEq p q))) :=
  op_bin_agg (xs := [.int .i64 p.plate.lead, .int .i64 p.plate.airline, .int .i64 p.plate.serial, .int .i64 p.weight, .int .i64 p.category]) (ys := [.int .i64 q.plate.lead, .int .i64 q.plate.airline, .int .i64 q.plate.serial, .int .i64 q.weight, .int .i64 q.category]) ho hy hz (fun w => run_tyn31 _ _ _ _ w) (fun w => run_neq31 p q w) rfl
end
end Go.Proofs.Ytdnofpggdddimaa
namespace Go.Proofs.Ytdnofpggdddimaa
open Go.RowKit
set_option linter.unusedSimpArgs false
set_option linter.unusedVariables false
set_option maxRecDepth 100000
def headNe (c d : Container) : Bool := ((((((!decide (c.number = d.number) || !flEq c.flight d.flight) || !decide (c.categories = d.categories)) || !decide (c.limit = d.limit)) || !decide (c.most = d.most)) || !decide (c.position = d.position)) || !decide (c.arm = d.arm)) || !decide ((c.pieces.length : Int) = (d.pieces.length : Int))
def sameC (c d : Container) : Bool := !headNe c d && (List.range c.pieces.length).all fun i => piEq (c.pieces.getD i default) (d.pieces.getD i default)
theorem all_range_no {n i : Nat} {f : Nat → Bool} (h : i < n) (hf : f i = false) : (List.range n).all f = false := by
  rw [List.all_eq_false]
  exact ⟨i, List.mem_range.2 h, by rw [hf]; simp⟩
theorem all_range_yes {n i : Nat} {f : Nat → Bool} (h : ¬ i < n) (hf : ∀ k, k < i → f k = true) : (List.range n).all f = true := by
  rw [List.all_eq_true]
  intro k hk
  exact hf k (by have := List.mem_range.1 hk; omega)
theorem all_b_step {f : Nat → Bool} {i : Nat} (h : ∀ k, k < i → f k = true) (h2 : f i = true) : ∀ k, k < i + 1 → f k = true := fun k hk => by
  by_cases e : k = i
  · rw [e, h2]
  exact h k (by omega)
theorem C40 {c d : Container} (hcc : c.pieces.length ≤ 1000000000) : Fn Try.prog 40 [] [.agg c.av, .agg d.av] [.v (.bool (sameC c d))] [] := by
  refine Spec.body Try.func40 rfl Try.ntmps40 (by simp) rfl ?_; intro S0 own0 v0 w0
  (refine AW.seq_k ?_; intro K hK)
  refine AW.region ?_
  refine awJ (op_box rfl rfl rfl sz77 rfl) ?_; (simp only [nA, Nat.reduceBEq, Nat.reduceEqDiff, ↓reduceIte])
  refine awJ (op_box rfl rfl rfl sz77 rfl) ?_; (simp only [nA, Nat.reduceBEq, Nat.reduceEqDiff, ↓reduceIte])
  refine awP (op_assign rfl rfl) ?_
  refine AWL.nil ?_
  (refine hK _ ?_; clear hK K; (simp only [nA, Nat.reduceBEq, Nat.reduceEqDiff, ↓reduceIte, Nat.reduceAdd, Nat.reduceSub]))
  (refine AW.seq_k ?_; intro K hK)
  (refine AW.seq_k ?_; intro K hK)
  refine AW.region (AWL.quiet ?_)
  (refine aqP (op_fa_ptr rfl rfl rfl fl77_0 (by exact sz3) (by decide) rfl) ?_)
  (refine aqR (op_load_ptr1 rfl rfl rfl rfl ag3 rfl rfl) ?_)
  (refine aqP (op_fa_ptr rfl rfl rfl fl77_0 (by exact sz3) (by decide) rfl) ?_)
  (refine aqR (op_load_ptr1 rfl rfl rfl rfl ag3 rfl rfl) ?_)
  (refine aqP (op_neq rfl rfl rfl) ?_)
  refine aqP (op_move rfl rfl) ?_
  refine' aqOr' [_, _, _, _, _] [12,13,14,15,16] rfl rfl rfl rfl rfl rfl rfl rfl rfl rfl rfl rfl (fun hb => ?_) ?_; rotate_left
  ·
   (try simp only [hcS] at hb)
   (refine aqP (op_fa_ptr rfl rfl rfl fl77_1 (by exact sz73) (by decide) rfl) ?_)
   (refine aqR (op_load_ptr rfl rfl rfl rfl ag73 sz73 (bl rfl) rfl) ?_)
   (refine aqP (op_fa_ptr rfl rfl rfl fl77_1 (by exact sz73) (by decide) rfl) ?_)
   (refine aqR (op_load_ptr rfl rfl rfl rfl ag73 sz73 (bl rfl) rfl) ?_)
   refine aqP (op_neq73 rfl rfl rfl) ?_; (simp only [nA])
   (refine aqSeg rfl rfl rfl ?_; repeat (first | exact fun _ _ => rfl | refine upd_out rfl ?_))
  simp only [nA]
  refine aqP (op_move rfl rfl) ?_
  refine' aqOr' [_, _, _, _, _] [19,20,21,22,23] rfl rfl rfl rfl rfl rfl rfl rfl rfl rfl rfl rfl (fun hb => ?_) ?_; rotate_left
  ·
   (try simp only [hcS] at hb)
   (refine aqP (op_fa_ptr rfl rfl rfl fl77_2 (by exact sz3) (by decide) rfl) ?_)
   (refine aqR (op_load_ptr1 rfl rfl rfl rfl ag3 rfl rfl) ?_)
   (refine aqP (op_fa_ptr rfl rfl rfl fl77_2 (by exact sz3) (by decide) rfl) ?_)
   (refine aqR (op_load_ptr1 rfl rfl rfl rfl ag3 rfl rfl) ?_)
   (refine aqP (op_neq rfl rfl rfl) ?_)
   (refine aqSeg rfl rfl rfl ?_; repeat (first | exact fun _ _ => rfl | refine upd_out rfl ?_))
  simp only [nA]
  refine aqP (op_move rfl rfl) ?_
  refine' aqOr' [_, _, _, _, _] [26,27,28,29,30] rfl rfl rfl rfl rfl rfl rfl rfl rfl rfl rfl rfl (fun hb => ?_) ?_; rotate_left
  ·
   (try simp only [hcS] at hb)
   (refine aqP (op_fa_ptr rfl rfl rfl fl77_3 (by exact sz3) (by decide) rfl) ?_)
   (refine aqR (op_load_ptr1 rfl rfl rfl rfl ag3 rfl rfl) ?_)
   (refine aqP (op_fa_ptr rfl rfl rfl fl77_3 (by exact sz3) (by decide) rfl) ?_)
   (refine aqR (op_load_ptr1 rfl rfl rfl rfl ag3 rfl rfl) ?_)
   (refine aqP (op_neq rfl rfl rfl) ?_)
   (refine aqSeg rfl rfl rfl ?_; repeat (first | exact fun _ _ => rfl | refine upd_out rfl ?_))
  simp only [nA]
  refine aqP (op_move rfl rfl) ?_
  refine' aqOr' [_, _, _, _, _] [33,34,35,36,37] rfl rfl rfl rfl rfl rfl rfl rfl rfl rfl rfl rfl (fun hb => ?_) ?_; rotate_left
  ·
   (try simp only [hcS] at hb)
   (refine aqP (op_fa_ptr rfl rfl rfl fl77_4 (by exact sz3) (by decide) rfl) ?_)
   (refine aqR (op_load_ptr1 rfl rfl rfl rfl ag3 rfl rfl) ?_)
   (refine aqP (op_fa_ptr rfl rfl rfl fl77_4 (by exact sz3) (by decide) rfl) ?_)
   (refine aqR (op_load_ptr1 rfl rfl rfl rfl ag3 rfl rfl) ?_)
   (refine aqP (op_neq rfl rfl rfl) ?_)
   (refine aqSeg rfl rfl rfl ?_; repeat (first | exact fun _ _ => rfl | refine upd_out rfl ?_))
  simp only [nA]
  refine aqP (op_move rfl rfl) ?_
  refine' aqOr' [_, _, _, _, _] [40,41,42,43,44] rfl rfl rfl rfl rfl rfl rfl rfl rfl rfl rfl rfl (fun hb => ?_) ?_; rotate_left
  ·
   (try simp only [hcS] at hb)
   (refine aqP (op_fa_ptr rfl rfl rfl fl77_5 (by exact sz3) (by decide) rfl) ?_)
   (refine aqR (op_load_ptr1 rfl rfl rfl rfl ag3 rfl rfl) ?_)
   (refine aqP (op_fa_ptr rfl rfl rfl fl77_5 (by exact sz3) (by decide) rfl) ?_)
   (refine aqR (op_load_ptr1 rfl rfl rfl rfl ag3 rfl rfl) ?_)
   (refine aqP (op_neq rfl rfl rfl) ?_)
   (refine aqSeg rfl rfl rfl ?_; repeat (first | exact fun _ _ => rfl | refine upd_out rfl ?_))
  simp only [nA]
  refine aqP (op_move rfl rfl) ?_
  refine' aqOr' [_, _, _, _, _] [47,48,49,50,51] rfl rfl rfl rfl rfl rfl rfl rfl rfl rfl rfl rfl (fun hb => ?_) ?_; rotate_left
  ·
   (try simp only [hcS] at hb)
   (refine aqP (op_fa_ptr rfl rfl rfl fl77_6 (by exact sz3) (by decide) rfl) ?_)
   (refine aqR (op_load_ptr1 rfl rfl rfl rfl ag3 rfl rfl) ?_)
   (refine aqP (op_fa_ptr rfl rfl rfl fl77_6 (by exact sz3) (by decide) rfl) ?_)
   (refine aqR (op_load_ptr1 rfl rfl rfl rfl ag3 rfl rfl) ?_)
   (refine aqP (op_neq rfl rfl rfl) ?_)
   (refine aqSeg rfl rfl rfl ?_; repeat (first | exact fun _ _ => rfl | refine upd_out rfl ?_))
  simp only [nA]
  refine aqP (op_move rfl rfl) ?_
  refine' aqOr' [_, _, _, _, _, _, _] [54,55,56,57,58,59,60] rfl rfl rfl rfl rfl rfl rfl rfl rfl rfl rfl rfl (fun hb => ?_) ?_; rotate_left
  ·
   (try simp only [hcS] at hb)
   (refine aqP (op_fa_ptr rfl rfl rfl fl77_7 (by exact sz53) (by decide) rfl) ?_)
   (refine aqR (op_load_ptr1 rfl rfl rfl rfl ag53 rfl rfl) ?_)
   (refine aqP (op_len_ro rfl rfl Try.underlying53 (by exact .inr (.inl ⟨_, rfl, rfl⟩))) ?_)
   (refine aqP (op_fa_ptr rfl rfl rfl fl77_7 (by exact sz53) (by decide) rfl) ?_)
   (refine aqR (op_load_ptr1 rfl rfl rfl rfl ag53 rfl rfl) ?_)
   (refine aqP (op_len_ro rfl rfl Try.underlying53 (by exact .inr (.inl ⟨_, rfl, rfl⟩))) ?_)
   (refine aqP (op_neq rfl rfl rfl) ?_)
   (refine aqSeg rfl rfl rfl ?_; repeat (first | exact fun _ _ => rfl | refine upd_out rfl ?_))
  simp only [nA]
  refine AQ.nil ?_
  (refine hK _ ?_; clear hK K; (skip))
  refine AW.cond rfl rfl rfl (fun hc => ?_) (fun hc => ?_)
  ·
   have hc1 := hc
   (refine AW.seq_k ?_; intro K hK)
   refine AW.region ?_
   refine awP (op_assign rfl rfl) ?_
   refine AWL.nil ?_
   (refine hK _ ?_; clear hK K; (simp only [nA, Nat.reduceBEq, Nat.reduceEqDiff, ↓reduceIte, Nat.reduceAdd, Nat.reduceSub]))
   skip
   refine AW.ret ?_; (simp only [thenE, inBlk, Nat.reduceEqDiff, ↓reduceIte]); rw [show sameC c d = false by unfold sameC; rw [show headNe c d = true from hc1]; rfl]; exact RQ.of0 rfl (.tmp (bl rfl) rfl rfl .nil)
  have hc1 := hc
  refine AW.skip ?_
  (refine hK _ ?_; clear hK K; (skip))
  (refine AW.seq_k ?_; intro K hK)
  (refine AW.seq_k ?_; intro K hK)
  refine AW.region ?_
  refine awP (op_assign rfl rfl) ?_
  refine AWL.nil ?_
  (refine hK _ ?_; clear hK K; (simp only [nA, Nat.reduceBEq, Nat.reduceEqDiff, ↓reduceIte, Nat.reduceAdd, Nat.reduceSub]))
  refine AW.block ?_
  have hh : headNe c d = false := hc1; have hle : c.pieces.length = d.pieces.length := (by unfold headNe at hh; simp at hh; omega); refine AW.loopI (fun i => [(2, .ptr 0 1 0 0), (3, .ptr 1 2 0 0), (5, .v (.int .i64 (i : Nat)))]) (fun i => ⟨[(1, .own 77 [c.av]), (2, .own 77 [d.av])], 3⟩) (fun i => i ≤ c.pieces.length ∧ ∀ k, k < i → piEq (c.pieces.getD k default) (d.pieces.getD k default) = true) (fun i => c.pieces.length - i) 0 (by simp) ⟨rfl, rfl, rfl, trivial⟩ rfl ?_; intro i ρ hi; simp only [updL]
  (refine AW.seq_k ?_; intro K hK)
  (refine AW.seq_k ?_; intro K hK)
  refine AW.region ?_
  refine awP (op_move rfl rfl) ?_
  (refine awP (op_fa_ptr rfl rfl rfl fl77_7 (by exact sz53) (by decide) rfl) ?_)
  (refine awR (op_load_ptr1 rfl rfl rfl rfl ag53 rfl rfl) ?_)
  (refine awP (op_len_ro rfl rfl Try.underlying53 (by exact .inr (.inl ⟨_, rfl, rfl⟩))) ?_)
  refine awP (op_lss rfl rfl rfl) ?_
  refine AWL.nil ?_
  (refine hK _ ?_; clear hK K; (simp only [nA, ↓reduceIte]))
  refine AW.cond rfl rfl rfl (fun hc => ?_) (fun hc => ?_)
  ·
   have hc2 := hc; have hlt : i < c.pieces.length := (by simpa using hc2)
   refine AW.skip ?_
   (refine hK _ ?_; clear hK K; (skip))
   (refine AW.seq_k ?_; intro K hK)
   refine AW.block ?_
   (refine AW.seq_k ?_; intro K hK)
   refine AW.quiet mix (by kernel_rfl) ?_
   (refine aqP (op_fa_ptr rfl rfl rfl fl77_7 (by exact sz53) (by decide) rfl) ?_)
   (refine aqR (op_load_ptr1 rfl rfl rfl rfl ag53 rfl rfl) ?_)
   refine aqP (op_move rfl rfl) ?_
   (refine aqP (op_ia_ro i rfl (.inl rfl) rfl Try.underlying53 rfl (get_mapD (by omega)) (by exact sz31) (bl rfl)) ?_)
   (refine aqR (op_load_rop rfl rfl ag31 sz31 (bl rfl) (by decide) rfl) ?_)
   (refine aqP (op_fa_ptr rfl rfl rfl fl77_7 (by exact sz53) (by decide) rfl) ?_)
   (refine aqR (op_load_ptr1 rfl rfl rfl rfl ag53 rfl rfl) ?_)
   refine aqP (op_move rfl rfl) ?_
   (refine aqP (op_ia_ro i rfl (.inl rfl) rfl Try.underlying53 rfl (get_mapD (by omega)) (by exact sz31) (bl rfl)) ?_)
   (refine aqR (op_load_rop rfl rfl ag31 sz31 (bl rfl) (by decide) rfl) ?_)
   refine aqP (op_neq31 rfl rfl rfl) ?_; (simp only [nA, ↓reduceIte])
   refine AQ.nil ?_
   (refine hK _ ?_; clear hK K; (skip))
   refine AW.cond rfl rfl rfl (fun hc => ?_) (fun hc => ?_)
   ·
    have hc3 := hc
    (refine AW.seq_k ?_; intro K hK)
    refine AW.region ?_
    refine awP (op_assign rfl rfl) ?_
    refine AWL.nil ?_
    (refine hK _ ?_; clear hK K; (simp only [nA, Nat.reduceBEq, Nat.reduceEqDiff, ↓reduceIte, Nat.reduceAdd, Nat.reduceSub]))
    skip
    refine AW.ret ?_; (simp only [thenE, inBlk, Nat.reduceEqDiff, ↓reduceIte]); rw [show sameC c d = false by unfold sameC; rw [all_range_no hlt (by simpa using hc3)]; simp]; exact RQ.of0 rfl (.tmp (bl rfl) rfl rfl .nil)
   have hc3 := hc
   refine AW.skip ?_
   simp only [thenE, inBlk, Nat.reduceEqDiff, ↓reduceIte]
   (refine hK _ ?_; clear hK K; (skip))
   refine AW.region ?_
   refine awP (op_move rfl rfl) ?_
   (refine awP (op_addi rfl rfl rfl (by omega)) ?_)
   refine awP (op_assign rfl rfl) ?_
   skip
   refine AWL.nil ?_
   refine ⟨i + 1, ⟨by omega, all_b_step hi.2 (by simpa using hc3)⟩, by omega, ⟨rfl, rfl, rfl, trivial⟩, (by rfl), (by rfl)⟩
  have hc2 := hc; have hnl : ¬ i < c.pieces.length := (by simpa using hc2)
  refine AW.exit ?_; (simp only [thenE, inBlk, Nat.reduceEqDiff, ↓reduceIte])
  clear hK K
  (refine hK _ ?_; clear hK K; (skip))
  (refine AW.seq_k ?_; intro K hK)
  refine AW.region ?_
  refine awP (op_assign rfl rfl) ?_
  refine AWL.nil ?_
  (refine hK _ ?_; clear hK K; (simp only [nA, Nat.reduceBEq, Nat.reduceEqDiff, ↓reduceIte, Nat.reduceAdd, Nat.reduceSub]))
  skip
  refine AW.ret ?_; rw [show sameC c d = true by unfold sameC; rw [hh, all_range_yes hnl hi.2]; rfl]; exact RQ.of0 rfl (.tmp (bl rfl) rfl rfl .nil)
end Go.Proofs.Ytdnofpggdddimaa
namespace Go.Proofs.Ytdnofpggdddimaa
open Go.RowKit
set_option linter.unusedSimpArgs false
set_option linter.unusedVariables false
set_option maxRecDepth 100000
abbrev flight0 : Flight := ⟨⟨#[66, 65]⟩, 1, ⟨#[]⟩, 1⟩
abbrev pieceP (i w : Int) : Piece := ⟨platesP i, w, 0⟩
abbrev emptyC : Container := ⟨7, flight0, 1, 100, 3, 0, 0, []⟩
end Go.Proofs.Ytdnofpggdddimaa
namespace Go.Proofs.Ytdnofpggdddimaa
open Go.RowKit
set_option linter.unusedSimpArgs false
set_option linter.unusedVariables false
set_option maxRecDepth 100000
theorem val_intro {c : Container} (h1 : coB c = true) (h2 : c.pieces.length ≤ 60) (h3 : ∀ p ∈ c.pieces, piB p = true) (h4 : Asc c.pieces) : valC c = 0 := by
  refine val_ok (i := c.pieces.length) h1 h2 (by omega) fun k hk => ?_
  rw [errI_at hk, if_neg (by rw [h3 _ (List.getElem_mem hk)]; simp)]
  split
  · rfl
  rename_i h0
  have := h4 (k - 1) k (by omega) hk (by omega)
  rcases cmpP_cases c.pieces[k - 1].plate c.pieces[k].plate with ⟨_, e⟩ | ⟨h, _⟩ | ⟨h, _⟩
  · rw [if_neg (by omega), if_neg (by omega)]
  · rw [h] at this; exact absurd this (PLt.irrefl _)
  exact absurd (this.trans h) (PLt.irrefl _)
theorem Asc.snoc {l : List Piece} {p : Piece} (h : Asc l) (hp : ∀ x ∈ l, PLt x.plate p.plate) : Asc (l ++ [p]) := by
  intro i j hi hj hij
  have hjl : j ≤ l.length := by simp at hj; omega
  have hil : i < l.length := by omega
  rw [List.getElem_append_left hil]
  by_cases e : j < l.length
  · rw [List.getElem_append_left e]; exact h i j hil e hij
  rw [List.getElem_append_right (by omega)]
  simp
  exact hp _ (List.getElem_mem hil)
theorem pos_end {l : List Piece} {p : Plate} (hp : ∀ x ∈ l, PLt x.plate p) : posP l p = l.length :=
  pos_eq (Nat.le_refl _) (fun i h _ => cmpP_lt.2 (hp _ (List.getElem_mem h))) fun i h h' => by omega
theorem found_end {l : List Piece} {p : Plate} (hp : ∀ x ∈ l, PLt x.plate p) : foundP l p = false := by
  unfold foundP
  rw [pos_end hp]
  simp
theorem plates_lt {i : Nat} (h : i < 100) : platesP i = ⟨0, 117, 1000 + i⟩ := by
  have e : gmod (i : Int) 1000 = i := by
    unfold gmod
    rw [if_neg (by omega), Int.tmod_eq_emod_of_nonneg (by omega), Int.emod_eq_of_lt (by omega) (by omega), if_neg (by omega)]
  unfold platesP
  rw [e]
  congr 1 <;> omega
structure Good (i : Nat) (c : Container) : Prop where
  val : valC c = 0
  len : c.pieces.length = i
  below : ∀ x ∈ c.pieces, x.plate.lead = 0 ∧ x.plate.airline = 117 ∧ x.plate.serial < 1000 + i ∧ x.category = 0
  most : c.most = 3
  cat : c.categories = 1
theorem Good.zero : Good 0 emptyC := ⟨by kernel_rfl, rfl, by simp, rfl, rfl⟩
theorem Good.step {i : Nat} {c : Container} {w : Int} (h : Good i c) (hi : i < 20) (hw : 1 ≤ w ∧ w ≤ 999) :
    (putC c (pieceP i w) false).2 = 0 ∧ Good (i + 1) (putC c (pieceP i w) false).1 ∧ weightC (putC c (pieceP i w) false).1 = weightC c + w := by
  have hv := val_inv h.val
  have hpl := plates_lt (i := i) (by omega)
  have hlt : ∀ x ∈ c.pieces, PLt x.plate (platesP i) := fun x hx => by
    obtain ⟨h1, h2, h3, _⟩ := h.below x hx
    rw [hpl]
    unfold PLt
    simp only
    omega
  have hpi : piB (pieceP i w) = true := by
    unfold piB plB inB
    rw [show (pieceP (i : Int) w).plate = ⟨0, 117, 1000 + i⟩ from hpl]
    simp
    omega
  have hlen := h.len
  have e : putC c (pieceP i w) false = (insC c (pieceP i w), 0) := by
    unfold putC
    rw [if_neg (by simp [h.val]), if_neg (by simp [hpi]), if_neg (by rw [found_end hlt]; simp), if_neg (by simp), if_neg (by simp), if_neg (by omega)]
  have e2 : (insC c (pieceP i w)).pieces = c.pieces ++ [pieceP i w] := by
    unfold insC
    simp only
    rw [pos_end hlt]
    simp
  have hval : valC (insC c (pieceP i w)) = 0 := by
    refine val_intro hv.1 (by rw [e2]; simp; omega) (fun p hp => ?_) (by rw [e2]; exact hv.2.2.2.snoc hlt)
    rw [e2] at hp
    rcases List.mem_append.1 hp with hp | hp
    · exact hv.2.2.1 p hp
    have : p = pieceP i w := by simpa using hp
    rw [this]; exact hpi
  rw [e]
  refine ⟨rfl, ⟨hval, by simp only; rw [e2]; simp; omega, fun x hx => ?_, h.most, h.cat⟩, ?_⟩
  · simp only at hx
    rw [e2] at hx
    rcases List.mem_append.1 hx with hx | hx
    · obtain ⟨h1, h2, h3, h4⟩ := h.below x hx
      exact ⟨h1, h2, by omega, h4⟩
    have : x = pieceP i w := by simpa using hx
    rw [this]
    rw [show (pieceP (i : Int) w).plate = ⟨0, 117, 1000 + i⟩ from hpl]
    exact ⟨rfl, rfl, by dsimp only; omega, rfl⟩
  unfold weightC
  rw [if_neg (by simp [hval]), if_neg (by simp [h.val])]
  simp only
  rw [e2]
  simp [sumW]
theorem Good.weight {i : Nat} {c : Container} (h : Good i c) (hi : i ≤ 20) : 0 ≤ weightC c ∧ weightC c ≤ 20000 := by
  unfold weightC
  rw [if_neg (by simp [h.val])]
  have := sum_bd c.pieces (val_w h.val)
  have := h.len
  omega
theorem Good.over {c : Container} (h : Good 20 c) : overC c = true := by
  unfold overC
  rw [if_neg (by simp [h.val])]
  split
  · rfl
  rw [h.most, h.len]
  simp
end Go.Proofs.Ytdnofpggdddimaa
namespace Go.Proofs.Ytdnofpggdddimaa
open Go.RowKit
set_option linter.unusedSimpArgs false
set_option linter.unusedVariables false
set_option maxRecDepth 100000
def insL (l : List Piece) (p : Piece) : List Piece := l.take (posP l p.plate) ++ p :: l.drop (posP l p.plate)
theorem insL_perm (l : List Piece) (p : Piece) : (insL l p).Perm (p :: l) := by
  unfold insL
  have h : (l.take (posP l p.plate) ++ p :: l.drop (posP l p.plate)).Perm (p :: (l.take (posP l p.plate) ++ l.drop (posP l p.plate))) := List.perm_middle
  rwa [List.take_append_drop] at h
def AscP (l : List Piece) : Prop := l.Pairwise fun a b => PLt a.plate b.plate
theorem ascP_iff {l : List Piece} : AscP l ↔ Asc l := by
  unfold AscP Asc
  rw [List.pairwise_iff_getElem]
theorem ascP_perm : ∀ {l m : List Piece}, AscP l → AscP m → l.Perm m → l = m
  | [], m, _, _, h => (List.nil_perm.1 h).symm
  | a :: l, [], _, _, h => by have := h.length_eq; simp at this
  | a :: l, b :: m, hl, hm, h => by
    have hla := List.pairwise_cons.1 hl
    have hmb := List.pairwise_cons.1 hm
    have e : a = b := by
      have h1 : a ∈ b :: m := h.mem_iff.1 (by simp)
      have h2 : b ∈ a :: l := h.mem_iff.2 (by simp)
      rcases List.mem_cons.1 h1 with h1 | h1
      · exact h1
      rcases List.mem_cons.1 h2 with h2 | h2
      · exact h2.symm
      exact absurd ((hmb.1 a h1).trans (hla.1 b h2)) (PLt.irrefl _)
    subst e
    rw [ascP_perm hla.2 hmb.2 (List.perm_cons a |>.1 h)]
theorem posP_cons (a : Piece) (l : List Piece) (p : Plate) : posP (a :: l) p = if cmpP a.plate p < 0 then posP l p + 1 else 0 := by
  unfold posP
  rw [List.takeWhile_cons]
  by_cases h : cmpP a.plate p < 0
  · rw [if_pos h, if_pos (by simpa using h)]; rfl
  rw [if_neg h, if_neg (by simpa using h)]; rfl
theorem insL_cons (a : Piece) (l : List Piece) (p : Piece) : insL (a :: l) p = if cmpP a.plate p.plate < 0 then a :: insL l p else p :: a :: l := by
  unfold insL
  rw [posP_cons]
  by_cases h : cmpP a.plate p.plate < 0
  · rw [if_pos h, if_pos h]; rfl
  rw [if_neg h, if_neg h]; rfl
theorem plt_of {p q : Plate} (h : ¬ cmpP p q < 0) (hne : p ≠ q) : PLt q p := by
  rcases cmpP_cases p q with ⟨_, e⟩ | ⟨e, _⟩ | ⟨h, _⟩
  · omega
  · exact absurd e hne
  exact h
theorem insL_asc : ∀ {l : List Piece} {p : Piece}, AscP l → (∀ x ∈ l, x.plate ≠ p.plate) → AscP (insL l p)
  | [], p, _, _ => by unfold insL AscP; simp [posP]
  | a :: l, p, h, hne => by
    have ha := List.pairwise_cons.1 h
    rw [insL_cons]
    split
    · rename_i hc
      refine List.pairwise_cons.2 ⟨fun x hx => ?_, insL_asc ha.2 fun x hx => hne x (by simp [hx])⟩
      rcases List.mem_cons.1 ((insL_perm l p).mem_iff.1 hx) with rfl | hx
      · exact cmpP_lt.1 hc
      exact ha.1 x hx
    rename_i hc
    have hpa := plt_of hc (hne a (by simp))
    refine List.pairwise_cons.2 ⟨fun x hx => ?_, h⟩
    rcases List.mem_cons.1 hx with rfl | hx
    · exact hpa
    exact hpa.trans (ha.1 x hx)
theorem found_no : ∀ {l : List Piece} {p : Plate}, (∀ x ∈ l, x.plate ≠ p) → foundP l p = false := by
  intro l p h
  unfold foundP
  by_cases hl : posP l p < l.length
  · have : (l.getD (posP l p) default).plate ≠ p := by
      rw [List.getD_eq_getElem?_getD, List.getElem?_eq_getElem hl]
      exact h _ (List.getElem_mem hl)
    rw [show decide ((l.getD (posP l p) default).plate = p) = false from decide_eq_false this, Bool.and_false]
  rw [show decide ((posP l p : Int) < (l.length : Int)) = false from decide_eq_false (by omega)]; rfl
/-- The container of the examples, with pieces. -/
abbrev withP (m : List Piece) : Container := ⟨7, flight0, 1, 100, 3, 0, 0, m⟩
end Go.Proofs.Ytdnofpggdddimaa
namespace Go.Proofs.Ytdnofpggdddimaa
open Go.RowKit
set_option linter.unusedSimpArgs false
set_option linter.unusedVariables false
set_option maxRecDepth 100000
/-- What is told of a slice of integers that came in. -/
def IsRow (k : IntKind) (w : World) (a : Option Addr) (len cap : Nat) (zs : List Int) : Prop :=
  (a = none ∧ len = 0 ∧ cap = 0 ∧ zs = []) ∨
  ∃ x, a = some x ∧ len ≤ cap ∧ cap ≤ maxLen ∧ zs.length = cap ∧ (∀ i, i < zs.length → w.cell? (x.add i) = some (.int k (zs.getD i 0))) ∧ ∀ n ∈ zs, (Lit.int k n).wf = true
theorem flat_iv : ∀ l : List Int, (l.map iv).flatten = l.map fun n => AV.v (.int .i64 n)
  | [] => rfl
  | n :: l => by rw [List.map_cons, List.flatten_cons, flat_iv l]; rfl
theorem IsRow.av {w : World} {a : Option Addr} {len cap : Nat} {zs : List Int} (h : IsRow .i64 w a len cap zs) :
    AggOK Try.prog (fun k => k < w.heap.size) w (insT []) [] (.slice a len cap) (.ro ((zs.take len).map iv)) := by
  rcases h with ⟨rfl, rfl, rfl, rfl⟩ | ⟨x, rfl, h1, h2, h3, h4, h5⟩
  · exact rep_ro_nil
  have hl : (zs.take len).length = len := by rw [List.length_take]; omega
  have hget : ∀ j u, ((zs.take len).map fun n => Value.int .i64 n)[j]? = some u → w.cell? (x.add j) = some u := fun j u hu => by
    rw [List.getElem?_map, List.getElem?_take] at hu
    split at hu
    · have hj : j < zs.length := by omega
      rw [h4 j hj]
      rw [List.getElem?_eq_getElem hj] at hu
      simp at hu
      rw [← hu]
      simp [hj]
    simp at hu
  have hrep : Rep Try.prog (fun k => k < w.heap.size) w [] (.slice (some x) ((zs.take len).map iv).length cap) (.ro ((zs.take len).map iv)) := by
    refine Rep.ro (us := (zs.take len).map fun n => Value.int .i64 n) (sz := 1) (by rw [List.length_map, hl]; exact h1) h2 (iv_len _) (fun hn => ?_) (by rw [flat_iv, List.length_map, List.length_map]) fun i u y hu hy => ?_
    · have h0 := hget 0 _ (List.getElem?_eq_getElem hn)
      obtain ⟨g, o, sp⟩ := x
      have : sp = none := by simpa [Addr.add] using World.cell?_spot h0
      subst this
      refine ⟨g, o, rfl, World.block_lt_of_cell? w _ h0, fun j u hu => ?_⟩
      have := hget j u hu
      rw [add_off] at this
      exact this
    rw [flat_iv, List.getElem?_map] at hy
    rw [List.getElem?_map] at hu
    cases hq : (zs.take len)[i]? with
    | none => rw [hq] at hu; cases hu
    | some n =>
      rw [hq] at hu hy
      simp only [Option.map_some, Option.some.injEq] at hu hy
      subst hu; subst hy
      exact Rep.v rfl
  rw [List.length_map, hl] at hrep
  exact hrep
end Go.Proofs.Ytdnofpggdddimaa
namespace Go.Proofs.Ytdnofpggdddimaa
open Go.RowKit
set_option linter.unusedSimpArgs false
set_option linter.unusedVariables false
set_option maxRecDepth 100000
/-- What has been gathered before round i. -/
structure Pcs (i : Nat) (m : List Piece) : Prop where
  asc : AscP m
  ok : ∀ x ∈ m, piB x = true
  below : ∀ x ∈ m, x.plate.lead = 0 ∧ x.plate.airline = 117 ∧ x.plate.serial < 1000 + i
  len : m.length ≤ i
theorem Pcs.zero : Pcs 0 [] := ⟨List.Pairwise.nil, by simp, by simp, by simp⟩
theorem Pcs.skip {i : Nat} {m : List Piece} (h : Pcs i m) : Pcs (i + 1) m :=
  ⟨h.asc, h.ok, fun x hx => by have := h.below x hx; omega, by have := h.len; omega⟩
theorem Pcs.add {i : Nat} {m : List Piece} {w c : Int} (h : Pcs i m) (hi : i < 12) (hw : 1 ≤ w ∧ w ≤ 30) (hc : 0 ≤ c ∧ c ≤ 4) : Pcs (i + 1) (m ++ [⟨platesP i, w, c⟩]) := by
  have hpl := plates_lt (i := i) (by omega)
  refine ⟨?_, fun x hx => ?_, fun x hx => ?_, by have := h.len; simp; omega⟩
  · refine List.pairwise_append.2 ⟨h.asc, List.pairwise_singleton _ _, fun a ha b hb => ?_⟩
    obtain rfl : b = _ := by simpa using hb
    obtain ⟨h1, h2, h3⟩ := h.below a ha
    show PLt a.plate (platesP i)
    rw [hpl]
    unfold PLt
    simp only
    omega
  · rcases List.mem_append.1 hx with hx | hx
    · exact h.ok x hx
    obtain rfl : x = _ := by simpa using hx
    unfold piB plB inB
    rw [hpl]
    simp
    omega
  rcases List.mem_append.1 hx with hx | hx
  · have := h.below x hx; omega
  obtain rfl : x = _ := by simpa using hx
  rw [hpl]
  exact ⟨rfl, rfl, by dsimp only; omega⟩
/-- What is forced, and what remains. -/
structure Rst (m c rest : List Piece) : Prop where
  asc : AscP c
  perm : (c ++ rest).Perm m
theorem Rst.zero (m : List Piece) : Rst m [] m := ⟨List.Pairwise.nil, by simp⟩
theorem Rst.len {m c rest : List Piece} (h : Rst m c rest) : c.length + rest.length = m.length := by
  have := h.perm.length_eq
  rwa [List.length_append] at this
theorem Rst.fin {m c : List Piece} (hm : Pcs 12 m) (h : Rst m c []) : c = m := by
  have := h.perm
  rw [List.append_nil] at this
  exact ascP_perm h.asc hm.asc this
theorem piEq_self (p : Piece) : piEq p p = true := by unfold piEq; simp
theorem sameC_self (c : Container) : sameC c c = true := by
  unfold sameC headNe
  rw [show flEq c.flight c.flight = true by unfold flEq; simp]
  simp [piEq_self]
end Go.Proofs.Ytdnofpggdddimaa
namespace Go.Proofs.Ytdnofpggdddimaa
open Go.RowKit
set_option linter.unusedSimpArgs false
set_option linter.unusedVariables false
set_option maxRecDepth 100000
def delC (c : Container) (p : Plate) : Container := { c with pieces := c.pieces.take (posP c.pieces p) ++ c.pieces.drop (posP c.pieces p + 1) }
def remC (c : Container) (p : Plate) : Container × Int :=
  if valC c ≠ 0 then (zeroC, valC c) else if foundP c.pieces p = false then (zeroC, 6) else (delC c p, 0)
end Go.Proofs.Ytdnofpggdddimaa
namespace Go.Proofs.Ytdnofpggdddimaa
open Go.RowKit
set_option linter.unusedSimpArgs false
set_option linter.unusedVariables false
set_option maxRecDepth 100000
theorem iv_flat (l : List Int) : ∀ r ∈ l.map iv, ∀ c ∈ r, flatA c = true := fun r hr c hc => by
  obtain ⟨p, _, rfl⟩ := List.mem_map.1 hr
  obtain rfl : c = _ := by simpa using hc
  rfl
def pickV (l : List Int) (k : Nat) (xs : List Int) : Int := xs.getD (gmod (rawV l k) (xs.length : Nat)).toNat default
theorem pickV_mem {l : List Int} {k : Nat} {xs : List Int} (h : 1 ≤ xs.length) : pickV l k xs ∈ xs := by
  have hg := gmod_bd (x := rawV l k) (n := (xs.length : Nat)) (by omega)
  unfold pickV
  rw [List.getD_eq_getElem?_getD, List.getElem?_eq_getElem (by omega)]
  exact List.getElem_mem _
theorem C22 {l : List Int} {k : Nat} {xs : List Int} (hl : l.length ≤ 2000) (h1 : 1 ≤ xs.length) (h2 : xs.length ≤ 1000) : Fn Try.prog 22 [.own 81 [srcRow l k]] [.ptr 0 0 0 0, .ro (xs.map iv)] [.v (.int .i64 (pickV l k xs))] [.own 81 [srcRow l (rawN l k)]] := by
  have hg := gmod_bd (x := rawV l k) (n := (xs.length : Nat)) (by omega)
  refine Spec.body Try.func22 rfl Try.ntmps22 (by simp) rfl ?_; intro S0 own0 v0 w0
  (refine AW.seq_k ?_; intro K hK)
  refine AW.region ?_
  refine awP (op_assign rfl rfl) ?_; (simp only [nA, Nat.reduceBEq, Nat.reduceEqDiff, ↓reduceIte, Nat.reduceAdd, Nat.reduceSub])
  refine AWL.nil ?_
  (refine hK _ ?_; clear hK K; (simp only [nA, Nat.reduceBEq, Nat.reduceEqDiff, ↓reduceIte, Nat.reduceAdd, Nat.reduceSub]))
  (refine AW.seq_k ?_; intro K hK)
  refine AW.region ?_
  refine awP (op_move rfl rfl) ?_; (simp only [nA, ↓reduceIte])
  refine awP (op_move rfl rfl) ?_; (simp only [nA, ↓reduceIte])
  refine awP (op_move rfl rfl) ?_; (simp only [nA, ↓reduceIte])
  (refine awP (op_len_ro rfl rfl Try.underlying27 (by exact .inr (.inl ⟨_, rfl, rfl⟩))) ?_); (simp only [nA, Nat.reduceBEq, Nat.reduceEqDiff, ↓reduceIte, Nat.reduceAdd, Nat.reduceSub])
  refine awJ (op_call1 rfl en12 (C12 hl (n := (xs.length : Nat)) (by omega)) (by exact rfl) (RL.cons .ptr (RL.cons (.base (by exact View.same rfl)) (RL.nil))) (by exact ⟨_, _, _, rfl, rfl, rfl⟩) (by exact rfl) (by exact rfl) (by exact rfl)) ?_; (simp only [nA, Nat.reduceBEq, Nat.reduceEqDiff, ↓reduceIte, Nat.reduceAdd, Nat.reduceSub])
  (refine awP (op_ia_ro (gmod (rawV l k) (xs.length : Nat)).toNat rfl (.inl rfl) rfl Try.underlying27 (by omega) (get_mapD (by omega)) (by exact sz3) (bl rfl)) ?_); (simp only [nA, Nat.reduceBEq, Nat.reduceEqDiff, ↓reduceIte, Nat.reduceAdd, Nat.reduceSub])
  (refine awR (op_load_rop1 rfl rfl ag3) ?_); (simp only [nA, Nat.reduceBEq, Nat.reduceEqDiff, ↓reduceIte, Nat.reduceAdd, Nat.reduceSub])
  refine awP (op_assign rfl rfl) ?_; (simp only [nA])
  refine AWL.nil ?_
  (refine hK _ ?_; clear hK K; (skip))
  skip
  refine AW.ret ?_; exact RQ.of (.inl rfl) rfl (.tmp (bl rfl) rfl rfl .nil) (by simp) rfl (one_out rfl)
theorem C56 {l : List Int} {k : Nat} {n : Int} (hl : l.length ≤ 2000) (hn : n ≤ 9223372036854775807) : Fn Try.prog 56 [.own 81 [srcRow l k]] [.ptr 0 0 0 0, .v (.int .i64 n)] [.agg (platesP (gmod (rawV l k) n)).av] [.own 81 [srcRow l (rawN l k)]] := by
  refine Spec.body Try.func56 rfl Try.ntmps56 (by simp) rfl ?_; intro S0 own0 v0 w0
  (refine AW.seq_k ?_; intro K hK)
  refine AW.region ?_
  refine awJ (op_alloc rfl ze29 rfl) ?_; (simp only [nA, Nat.reduceBEq, Nat.reduceEqDiff, ↓reduceIte])
  refine AWL.nil ?_
  (refine hK _ ?_; clear hK K; (simp only [nA, Nat.reduceBEq, Nat.reduceEqDiff, ↓reduceIte, Nat.reduceAdd, Nat.reduceSub]))
  (refine AW.seq_k ?_; intro K hK)
  refine AW.region ?_
  refine awP (op_move rfl rfl) ?_; (simp only [nA, ↓reduceIte])
  refine awP (op_move rfl rfl) ?_; (simp only [nA, ↓reduceIte])
  refine awJ (op_call1 rfl en12 (C12 hl hn) (by exact rfl) (RL.cons .ptr (RL.cons (.base (by exact View.same rfl)) (RL.nil))) (by exact ⟨_, _, _, rfl, rfl, rfl⟩) (by exact rfl) (by exact rfl) (by exact rfl)) ?_; (simp only [nA, Nat.reduceBEq, Nat.reduceEqDiff, ↓reduceIte, Nat.reduceAdd, Nat.reduceSub])
  refine awJ (op_call (b := false) rfl en57 (C57 (i := gmod (rawV l k) n)) (RL.cons (by exact View.same rfl) (RL.nil)) rfl (fun h => by cases h) rfl rfl) ?_; (simp only [nA, Nat.reduceBEq, Nat.reduceEqDiff, ↓reduceIte, Nat.reduceAdd, Nat.reduceSub])
  refine awJ (op_store rfl rfl rfl rfl rfl rfl sz29 rfl (bl rfl) rfl) ?_; (simp only [nA, Nat.reduceBEq, Nat.reduceEqDiff, ↓reduceIte])
  refine AWL.nil ?_
  (refine hK _ ?_; clear hK K; (skip))
  skip
  refine AW.ret ?_; exact RQ.of (.inl rfl) rfl (.cell (bl rfl) rfl rfl rfl ag29 sz29 (bl rfl) rfl rfl .nil) (by simp) rfl (one_out rfl)
abbrev catsL : List Int := [0, 0, 0, 1, 1, 2, 3, 4]
abbrev pieceV (l : List Int) (k : Nat) (n : Int) : Piece := ⟨platesP (gmod (rawV l k) n), 1 + gmod (rawV l (rawN l k)) 40, pickV l (rawN l (rawN l k)) catsL⟩
theorem C23 {l : List Int} {k : Nat} {n : Int} (hl : l.length ≤ 2000) (hn : n ≤ 9223372036854775807) : Fn Try.prog 23 [.own 81 [srcRow l k]] [.ptr 0 0 0 0, .v (.int .i64 n)] [.agg (pieceV l k n).av] [.own 81 [srcRow l (rawN l (rawN l (rawN l k)))]] := by
  have hg := gmod_bd (x := rawV l (rawN l k)) (n := 40) (by decide)
  refine Spec.body Try.func23 rfl Try.ntmps23 (by simp) rfl ?_; intro S0 own0 v0 w0
  (refine AW.seq_k ?_; intro K hK)
  refine AW.region ?_
  refine awJ (op_alloc rfl ze31 rfl) ?_; (simp only [nA, Nat.reduceBEq, Nat.reduceEqDiff, ↓reduceIte])
  refine AWL.nil ?_
  (refine hK _ ?_; clear hK K; (simp only [nA, Nat.reduceBEq, Nat.reduceEqDiff, ↓reduceIte, Nat.reduceAdd, Nat.reduceSub]))
  (refine AW.seq_k ?_; intro K hK)
  refine AW.region ?_
  refine awP (op_move rfl rfl) ?_; (simp only [nA, ↓reduceIte])
  refine awP (op_move rfl rfl) ?_; (simp only [nA, ↓reduceIte])
  refine awJ (op_call1 rfl en56 (C56 hl hn) (by exact rfl) (RL.cons .ptr (RL.cons (.base (by exact View.same rfl)) (RL.nil))) (by exact ⟨_, _, _, rfl, rfl, rfl⟩) (by exact rfl) (by exact rfl) (by exact rfl)) ?_; (simp only [nA, Nat.reduceBEq, Nat.reduceEqDiff, ↓reduceIte, Nat.reduceAdd, Nat.reduceSub])
  refine awP (op_move rfl rfl) ?_; (simp only [nA, ↓reduceIte])
  refine awJ (op_call1 rfl en12 (C12 (n := 40) hl (by decide)) (by exact rfl) (RL.cons .ptr (RL.cons (.base (by exact View.same rfl)) (RL.nil))) (by exact ⟨_, _, _, rfl, rfl, rfl⟩) (by exact rfl) (by exact rfl) (by exact rfl)) ?_; (simp only [nA, Nat.reduceBEq, Nat.reduceEqDiff, ↓reduceIte, Nat.reduceAdd, Nat.reduceSub])
  (refine awP (op_addi rfl rfl rfl (by omega)) ?_); (simp only [nA, Nat.reduceBEq, Nat.reduceEqDiff, ↓reduceIte, Nat.reduceAdd, Nat.reduceSub])
  refine awP (op_move rfl rfl) ?_; (simp only [nA, ↓reduceIte])
  refine awJ (op_buildSlice rfl [(0, iv 0), (1, iv 0), (2, iv 0), (3, iv 1), (4, iv 1), (5, iv 2), (6, iv 3), (7, iv 4)] (([0, 0, 0, 1, 1, 2, 3, 4] : List Int).map iv) Try.underlying27 ze3 rfl (by simp) (fold_dense 1 (([0, 0, 0, 1, 1, 2, 3, 4] : List Int).map iv) (iv_len _)) (iv_len _) rfl (bl rfl) (by simp [maxLen])) ?_; (simp only [nA, Nat.reduceBEq, Nat.reduceEqDiff, ↓reduceIte]); refine AWL.gh (Gh.freeze 12 (bl rfl) rfl rfl (iv_flat catsL) (es' := catsL.map iv) rfl) ?_; (simp only [nA, Nat.reduceBEq, Nat.reduceEqDiff, ↓reduceIte, Nat.reduceAdd, Nat.reduceSub])
  refine awJ (op_call1 rfl en22 (C22 (xs := catsL) hl (by decide) (by decide)) (by exact rfl) (RL.cons .ptr (RL.cons (.base (by exact View.same rfl)) (RL.nil))) (by exact ⟨_, _, _, rfl, rfl, rfl⟩) (by exact rfl) (by exact rfl) (by exact rfl)) ?_; (simp only [nA, Nat.reduceBEq, Nat.reduceEqDiff, ↓reduceIte, Nat.reduceAdd, Nat.reduceSub])
  refine awP (op_build2 (xs := [_, _, _, _, _]) rfl pl31 ze31 [(0, [_, _, _]), (1, [_]), (2, [_])] rfl rfl rfl) ?_; (simp only [nA, ↓reduceIte])
  refine awJ (op_store rfl rfl rfl rfl rfl rfl sz31 rfl (bl rfl) rfl) ?_; (simp only [nA, Nat.reduceBEq, Nat.reduceEqDiff, ↓reduceIte])
  refine AWL.nil ?_
  (refine hK _ ?_; clear hK K; (skip))
  skip
  refine AW.ret ?_; exact RQ.of (.inl rfl) rfl (.cell (bl rfl) rfl rfl rfl ag31 sz31 (bl rfl) rfl rfl .nil) (by simp) rfl (one_out rfl)
def hasB (l : List Piece) (p : Plate) : Bool := l.any fun x => decide (x.plate = p)
end Go.Proofs.Ytdnofpggdddimaa
namespace Go.Proofs.Ytdnofpggdddimaa
open Go.RowKit
set_option linter.unusedSimpArgs false
set_option linter.unusedVariables false
set_option maxRecDepth 100000
theorem sumW_perm {l m : List Piece} (h : l.Perm m) : sumW l = sumW m := by
  unfold sumW
  induction h with
  | nil => rfl
  | cons x _ ih => simp [ih]
  | swap x y l => simp; omega
  | trans _ _ h1 h2 => exact h1.trans h2
theorem hasB_iff {l : List Piece} {p : Plate} : hasB l p = true ↔ ∃ x ∈ l, x.plate = p := by unfold hasB; simp
theorem hasB_no {l : List Piece} {p : Plate} : hasB l p = false ↔ ∀ x ∈ l, x.plate ≠ p := by unfold hasB; simp
theorem found_has {l : List Piece} {p : Plate} (ha : AscP l) : foundP l p = hasB l p := by
  cases hb : hasB l p with
  | false => exact found_no (hasB_no.1 hb)
  | true =>
    obtain ⟨x, hx, e⟩ := hasB_iff.1 hb
    obtain ⟨i, hi, rfl⟩ := List.getElem_of_mem hx
    have hpos : posP l p = i := pos_eq (by omega) (fun j h hj => by
      rw [← e]; exact cmpP_lt.2 (List.pairwise_iff_getElem.1 ha j i h hi hj)) (fun j h hj hlt => by
      rw [← e] at hlt
      rcases Nat.lt_or_ge i j with h' | h'
      · exact PLt.irrefl _ ((cmpP_lt.1 hlt).trans (List.pairwise_iff_getElem.1 ha i j hi h h'))
      obtain rfl : j = i := by omega
      exact PLt.irrefl _ (cmpP_lt.1 hlt))
    unfold foundP
    rw [hpos, List.getD_eq_getElem?_getD, List.getElem?_eq_getElem hi]
    simp [hi, e]
theorem val_asc {c : Container} (h : valC c = 0) : AscP c.pieces := ascP_iff.2 (val_inv h).2.2.2
theorem ins_pieces (c : Container) (p : Piece) : (insC c p).pieces = insL c.pieces p := rfl
theorem ins_val {c : Container} {p : Piece} (h : valC c = 0) (hp : piB p = true) (hn : hasB c.pieces p.plate = false) (hl : c.pieces.length < 60) : valC (insC c p) = 0 := by
  have hv := val_inv h
  have hperm := insL_perm c.pieces p
  refine val_intro hv.1 ?_ (fun x hx => ?_) (ascP_iff.1 (insL_asc (val_asc h) (hasB_no.1 hn)))
  · rw [ins_pieces, hperm.length_eq]; simp; omega
  rcases List.mem_cons.1 (hperm.mem_iff.1 hx) with rfl | hx
  · exact hp
  exact hv.2.2.1 x hx
theorem del_sub (c : Container) (p : Plate) : (delC c p).pieces.Sublist c.pieces := by
  show (c.pieces.take _ ++ c.pieces.drop _).Sublist c.pieces
  conv => rhs; rw [← List.take_append_drop (posP c.pieces p) c.pieces]
  exact (List.Sublist.refl _).append (List.drop_sublist_drop_left _ (Nat.le_succ _))
theorem del_val {c : Container} {p : Plate} (h : valC c = 0) : valC (delC c p) = 0 := by
  have hv := val_inv h
  have hs := del_sub c p
  exact val_intro hv.1 (Nat.le_trans hs.length_le hv.2.1) (fun x hx => hv.2.2.1 x (hs.subset hx)) (ascP_iff.1 ((val_asc h).sublist hs))
theorem val_nn {c : Container} (h : valC c = 0) {x : Piece} (hx : x ∈ c.pieces) : 1 ≤ x.weight := (piB_inv ((val_inv h).2.2.1 x hx)).2.1
theorem sumW_sub : ∀ {l m : List Piece}, l.Sublist m → (∀ x ∈ m, 1 ≤ x.weight) → sumW l ≤ sumW m
  | _, _, .slnil, _ => Int.le_refl _
  | _, _, .cons a h, hm => by
    have := sumW_sub h fun x hx => hm x (by simp [hx])
    have := hm a (by simp)
    unfold sumW at *
    simp; omega
  | _, _, .cons_cons a h, hm => by
    have := sumW_sub h fun x hx => hm x (by simp [hx])
    unfold sumW at *
    simp; omega
theorem over_no {c : Container} (h : valC c = 0) : overC c = false ↔ (∀ x ∈ c.pieces, bitB c.categories x.category = true) ∧ sumW c.pieces ≤ c.limit ∧ (c.pieces.length : Int) ≤ c.most := by
  unfold overC weightC
  simp only [h, ne_eq, not_true_eq_false, if_false]
  by_cases hb : (c.pieces.all fun p => bitB c.categories p.category) = true
  · rw [if_neg (by simp [hb])]
    simp at hb
    simp
    exact fun _ _ => hb
  rw [if_pos (by simpa using hb)]
  simp at hb
  obtain ⟨x, hx, hb⟩ := hb
  simp
  intro hall
  rw [hall x hx] at hb
  cases hb
/-- A container as the law has it. -/
structure Lim (c : Container) : Prop where
  val : valC c = 0
  no : overC c = false
  most : c.most ≤ 8
theorem Lim.len {c : Container} (h : Lim c) : c.pieces.length ≤ 8 := by
  have := ((over_no h.val).1 h.no).2.2
  have := h.most
  omega
theorem Lim.rem {c : Container} {p : Plate} (h : Lim c) : ((remC c p).2 = 0 ∧ hasB c.pieces p = true ∧ Lim (remC c p).1) ∨ ((remC c p).2 = 6 ∧ hasB c.pieces p = false) := by
  unfold remC
  rw [if_neg (by simp [h.val]), found_has (val_asc h.val)]
  cases hb : hasB c.pieces p with
  | false => right; simp
  | true =>
    left
    have ho := (over_no h.val).1 h.no
    have hs := del_sub c p
    refine ⟨rfl, rfl, del_val h.val, (over_no (del_val h.val)).2 ⟨fun x hx => ho.1 x (hs.subset hx), Int.le_trans (sumW_sub hs fun x hx => val_nn h.val hx) ho.2.1, ?_⟩, h.most⟩
    have := hs.length_le
    show (((delC c p).pieces.length : Nat) : Int) ≤ c.most
    omega
theorem put_eq {c : Container} {p : Piece} {lim : Bool} (h : valC c = 0) (hp : piB p = true) : putC c p lim = if foundP c.pieces p.plate = true then (zeroC, 5)
  else if (lim && !bitB c.categories p.category) = true then (zeroC, 4) else if (lim && fullB c p) = true then (zeroC, 8)
  else if (c.pieces.length : Int) ≥ 60 then (zeroC, 2) else (insC c p, 0) := by
  unfold putC
  rw [if_neg (by simp [h]), if_neg (by simp [hp])]
theorem Lim.add {c : Container} {p : Piece} (h : Lim c) (hp : piB p = true) :
    ((putC c p true).2 = 5 ∧ (putC c p false).2 = 5 ∧ hasB c.pieces p.plate = true) ∨
    ((putC c p true).2 = 0 ∧ (putC c p false).2 = 0 ∧ (putC c p true).1 = (putC c p false).1 ∧ hasB c.pieces p.plate = false ∧ Lim (putC c p true).1) ∨
    ((putC c p true).2 ≠ 0 ∧ (putC c p false).2 = 0 ∧ overC (putC c p false).1 = true ∧ hasB c.pieces p.plate = false) := by
  have hl := h.len
  rw [put_eq h.val hp, put_eq h.val hp, found_has (val_asc h.val)]
  cases hb : hasB c.pieces p.plate with
  | true => left; simp
  | false =>
    right
    have hiv := ins_val h.val hp hb (by omega)
    have hperm := insL_perm c.pieces p
    have ho := (over_no h.val).1 h.no
    have hsum : sumW (insL c.pieces p) = p.weight + sumW c.pieces := by rw [sumW_perm hperm]; simp [sumW]
    have hlen : (insL c.pieces p).length = c.pieces.length + 1 := by rw [hperm.length_eq]; rfl
    have hin : ∀ x, x ∈ insL c.pieces p ↔ x = p ∨ x ∈ c.pieces := fun x => by rw [hperm.mem_iff]; simp
    have e2 : (if (c.pieces.length : Int) ≥ 60 then (zeroC, 2) else (insC c p, 0)) = (insC c p, (0 : Int)) := by rw [if_neg (by omega)]
    simp only [Bool.false_and, Bool.false_eq_true, if_false, Bool.true_and]
    rw [e2]
    by_cases hbit : bitB c.categories p.category = true
    · rw [if_neg (by simp [hbit])]
      by_cases hf : fullB c p = true
      · rw [if_pos hf]
        right
        refine ⟨by simp, rfl, ?_, trivial⟩
        cases hov : overC (insC c p) with
        | true => rfl
        | false =>
          obtain ⟨-, q2, q3⟩ := (over_no hiv).1 hov
          rw [ins_pieces, hsum] at q2
          rw [ins_pieces, hlen] at q3
          unfold fullB at hf
          simp at hf
          have : (insC c p).limit = c.limit := rfl
          have : (insC c p).most = c.most := rfl
          omega
      rw [if_neg hf]
      left
      refine ⟨rfl, rfl, rfl, trivial, hiv, (over_no hiv).2 ⟨fun x hx => ?_, ?_, ?_⟩, h.most⟩
      · rcases (hin x).1 hx with rfl | hx
        · exact hbit
        exact ho.1 x hx
      · unfold fullB at hf
        simp at hf
        rw [ins_pieces, hsum]
        show _ ≤ c.limit
        omega
      unfold fullB at hf
      simp at hf
      rw [ins_pieces, hlen]
      show _ ≤ c.most
      omega
    rw [if_pos (by simpa using hbit)]
    right
    refine ⟨by simp, rfl, ?_, trivial⟩
    cases hov : overC (insC c p) with
    | true => rfl
    | false =>
      have := ((over_no hiv).1 hov).1 p (by rw [ins_pieces, hin]; exact .inl rfl)
      exact absurd this hbit
theorem plates_ok (x : Int) : plB (platesP x) = true := by
  have h1 := gmod_bd (x := x) (n := 1000) (by decide)
  unfold plB platesP
  generalize gmod x 1000 = a at *
  have e : ∀ {a b c d e f : Prop} [Decidable a] [Decidable b] [Decidable c] [Decidable d] [Decidable e] [Decidable f], a → b → c → d → e → f → (((((decide a && decide b) && decide c) && decide d) && decide e) && decide f) = true := fun h1 h2 h3 h4 h5 h6 => by simp [h1, h2, h3, h4, h5, h6]
  refine e ?_ ?_ ?_ ?_ ?_ ?_ <;> dsimp only <;> omega
theorem Lim.zero {a b m : Int} (h1 : 0 ≤ a ∧ a < 32) (h2 : 0 ≤ b ∧ b < 200) (h3 : 0 ≤ m ∧ m < 9) : Lim ⟨7, flight0, a, b, m, 0, 0, []⟩ := by
  have hv : valC (⟨7, flight0, a, b, m, 0, 0, []⟩ : Container) = 0 := by
    refine val_intro ?_ (by simp) (by simp) (by unfold Asc; simp)
    have : flB flight0 = true := by kernel_rfl
    unfold coB inB
    rw [this]
    simp
    omega
  exact ⟨hv, (over_no hv).2 ⟨by simp, by show (0 : Int) ≤ b; omega, by show (0 : Int) ≤ m; omega⟩, by show m ≤ 8; omega⟩
end Go.Proofs.Ytdnofpggdddimaa
