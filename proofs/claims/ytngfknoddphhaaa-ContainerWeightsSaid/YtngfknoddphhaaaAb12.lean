import Derived.Test.YtngfknoddphhaaaAb11
namespace Go.Proofs.Ytngfknoddphhaaa
open Go.RowKit
set_option linter.unusedSimpArgs false
set_option linter.unusedVariables false

/-! ### Regions that draw their order and only read -/
section
variable {C : Cx} {Q : Exit → Sta → Prop} {σ : Sta}
def StI (C : Cx) (σ : Sta) (a : Act) (w : World) (S : Nat → Prop) (vals : List Value) (bss : List (List Nat)) : Prop :=
  a.defers = [] ∧ a.tmps.size = σ.n ∧ Mem C σ.T S vals bss w ∧ ∀ t, t < σ.n → TmpOK C.P S w σ.T vals (a.tmps.getD t undef) (σ.env t)
def AQ (C : Cx) (ops : Array Oper) (K : Sta → Prop) (l : List Oper) (σ : Sta) : Prop :=
  ∀ a w S vals bss, StI C σ a w S vals bss → wpQuiet C.P ops (fun w' => Kept (fun _ => True) w w') (fun a' => ∃ σ', StI C σ' a' w S vals bss ∧ K σ') l a
theorem Mem.grow {T : Sl} {S : Nat → Prop} {vals : List Value} {bss : List (List Nat)} {w w' : World} (hm : Mem C T S vals bss w) (hk : Kept (fun _ => True) w w') : Mem C T S vals bss w' :=
  ⟨hm.kept.then hk (fun _ _ _ => trivial), hm.s0, hm.sub, fun k h => Nat.lt_of_lt_of_le (hm.lt k h) hk.size, hm.nv, hm.nb, fun r k x v bs h1 h2 h3 => (hm.rep r k x v bs h1 h2 h3).kept hk (fun _ _ _ => trivial) (fun _ _ => trivial), hm.nodup, hm.disj, hm.apart, hm.mine, hm.root, hm.ver, hm.pos⟩
theorem StI.grow {a : Act} {w w' : World} {S : Nat → Prop} {vals : List Value} {bss : List (List Nat)} (h : StI C σ a w S vals bss) (hk : Kept (fun _ => True) w w') : StI C σ a w' S vals bss :=
  ⟨h.1, h.2.1, h.2.2.1.grow hk, fun t ht => TmpOK.follows (Follows.kept hk (fun _ _ _ => trivial) fun _ h => h) (h.2.2.2 t ht)⟩
theorem AW.quiet {i : Nat} {l : List Oper} (hm : C.P.follows .mixedOrders = true) (hB : Region.lexB .any l.toArray = true) (h : AQ C l.toArray (Q .normal) l σ) : AW C (.region i l.toArray true) Q σ := by
  intro a w ⟨hd, hn, S, vals, bss, hme, he⟩
  have hk : Kept (fun _ => True) w { w with drawn := w.drawn + 1 } := (Kept.refl _ _).drew
  refine wp_region_quiet (C := fun w' => Kept (fun _ => True) w w') hm hB hk ?_
  have := h a w S vals bss ⟨hd, hn, hme, he⟩
  simp only
  have key : ∀ (ops : Array Oper) (l : List Oper) (a : Act) (P1 P2 : Act → Prop), (∀ a, P1 a → P2 a) → wpQuiet C.P ops (fun w' => Kept (fun _ => True) w w') P1 l a → wpQuiet C.P ops (fun w' => Kept (fun _ => True) w w') P2 l a := by
    intro ops l
    induction l with
    | nil => intro a P1 P2 h h'; exact h _ h'
    | cons o l ih =>
      intro a P1 P2 h h'
      unfold wpQuiet at h' ⊢
      split
      · rename_i hw; rw [if_pos hw] at h'; exact Oper.quiet_mono (fun a => ih a P1 P2 h) h'
      · rename_i hw; rw [if_neg hw] at h'; exact ih _ P1 P2 h h'
  refine key _ _ _ _ _ ?_ this
  rintro a' ⟨σ', hs, hq⟩ w' hk'
  obtain ⟨h1, h2, h3, h4⟩ := hs.grow hk'
  exact ⟨σ', ⟨h1, h2, S, vals, bss, h3, h4⟩, hq⟩
theorem AQ.nil {ops : Array Oper} {K : Sta → Prop} (h : K σ) : AQ C ops K [] σ := fun a w S vals bss hs => ⟨σ, hs, h⟩
theorem StI.put {a : Act} {w : World} {S : Nat → Prop} {vals : List Value} {bss : List (List Nat)} (h : StI C σ a w S vals bss) {d : Option Tmp} {v : Value} {x : AV} (hx : TmpOK C.P S w σ.T vals v x) : StI C ⟨putE σ.env d x, σ.T, σ.n⟩ (a.put d v) w S vals bss := by
  obtain ⟨hd, hn, hm, he⟩ := h
  refine ⟨by rw [Act.defers_put, hd], by rw [Act.size_put, hn], hm, fun t ht => ?_⟩
  rw [Act.getD_put]
  cases d with
  | none => rw [if_neg (by simp)]; exact he t ht
  | some d =>
    by_cases h : d = t
    · subst h
      rw [if_pos ⟨rfl, by rw [hn]; exact ht⟩]
      simpa [putE, upd] using hx
    · rw [if_neg (fun h' => h (by simpa using h'.1))]
      have : (putE σ.env (some d) x) t = σ.env t := by simp [putE, upd]; intro h'; exact absurd h'.symm h
      show TmpOK C.P S w σ.T vals (a.tmps.getD t undef) (putE σ.env (some d) x t)
      rw [this]
      exact he t ht
/-- A call that gives one value, in every world in which nothing has turned. -/
def OpQ (C : Cx) (o : Oper) (ev : Operand → AV) (T : Sl) (x : AV) : Prop :=
  ∀ (a : Act) (w : World) (S : Nat → Prop) (vals : List Value) (bss : List (List Nat)), Mem C T S vals bss w → (∀ y ∈ o.op.operands, TmpOK C.P S w T vals (a.eval y) (ev y)) →
    ∃ v, (∀ w', Kept (fun _ => True) w w' → o.quietAt C.P a (fun w'' => Kept (fun _ => True) w w'') w' v) ∧ TmpOK C.P S w T vals v x
theorem OpR.q {o : Oper} {ev : Operand → AV} {T : Sl} {x : AV} (h : OpR C o ev T x) : OpQ C o ev T x := fun a w S vals bss hm ho => by
  obtain ⟨v, hr, hx⟩ := h a w S vals bss hm ho
  refine ⟨v, fun w' hk => ?_, hx⟩
  unfold Oper.quietAt
  rw [hr w' hk]
  exact ⟨rfl, rfl⟩
theorem OpP.q {o : Oper} {ev : Operand → AV} {T : Sl} {x : AV} (h : OpP C o ev T x) : OpQ C o ev T x := h.r.q
theorem AQ.op {ops : Array Oper} {K : Sta → Prop} {o : Oper} {l : List Oper} {x : AV} (hg : o.guard = none) (ho : opsOk o σ.n = true) (hj : OpQ C o (evA σ.env) σ.T x) (h : AQ C ops K l ⟨putE σ.env o.dst x, σ.T, σ.n⟩) : AQ C ops K (o :: l) σ := by
  intro a w S vals bss hs
  obtain ⟨v, h1, h2⟩ := hj a w S vals bss hs.2.2.1 (St.ops hs.2.1 hs.2.2.2 ho)
  unfold wpQuiet
  rw [if_pos (by simp [Region.wanted, hg])]
  exact ⟨v, h1, h _ _ _ _ _ (hs.put h2)⟩
theorem StI.st {a : Act} {w : World} {S : Nat → Prop} {vals : List Value} {bss : List (List Nat)} (h : StI C σ a w S vals bss) : St C σ a w := ⟨h.1, h.2.1, S, vals, bss, h.2.2.1, h.2.2.2⟩
theorem AQ.yes {ops : Array Oper} {K : Sta → Prop} {o o' : Oper} {l : List Oper} {x : AV} {g d : Nat} {b : Bool} (hg : o.guard = some (g, b)) (ho' : ops[g]? = some o') (hd : o'.dst = some d) (hdn : d < σ.n) (hv : σ.env d = .v (.bool b))
    (ho : opsOk o σ.n = true) (hj : OpQ C o (evA σ.env) σ.T x) (h : AQ C ops K l ⟨putE σ.env o.dst x, σ.T, σ.n⟩) : AQ C ops K (o :: l) σ := by
  intro a w S vals bss hs
  have hb := hs.st.bool (c := .tmp d) (t := b) (by simpa [noneBig] using hdn) rfl hv
  obtain ⟨v, h1, h2⟩ := hj a w S vals bss hs.2.2.1 (St.ops hs.2.1 hs.2.2.2 ho)
  have hw : Region.wanted o (yielded ops a.tmps) = true := by
    have hlt : d < a.tmps.size := by rw [hs.2.1]; exact hdn
    simp [Act.eval, hlt] at hb
    simp [Region.wanted, hg, yielded, ho', hd, hlt, hb]
  unfold wpQuiet
  rw [if_pos hw]
  exact ⟨v, h1, h _ _ _ _ _ (hs.put h2)⟩
theorem AQ.no {ops : Array Oper} {K : Sta → Prop} {o o' : Oper} {l : List Oper} {g d : Nat} {b : Bool} (hg : o.guard = some (g, !b)) (ho' : ops[g]? = some o') (hd : o'.dst = some d) (hdn : d < σ.n) (hv : σ.env d = .v (.bool b))
    (h : AQ C ops K l ⟨putE σ.env o.dst .any, σ.T, σ.n⟩) : AQ C ops K (o :: l) σ := by
  intro a w S vals bss hs
  have hb := hs.st.bool (c := .tmp d) (t := b) (by simpa [noneBig] using hdn) rfl hv
  have hw : ¬ Region.wanted o (yielded ops a.tmps) = true := by
    have hlt : d < a.tmps.size := by rw [hs.2.1]; exact hdn
    simp [Act.eval, hlt] at hb
    simp [Region.wanted, hg, yielded, ho', hd, hlt, hb]
  unfold wpQuiet
  rw [if_neg hw]
  exact h _ _ _ _ _ (hs.put TmpOK.any_)

/-! ### Steps that change only what is known -/
def Gh (C : Cx) (σ σ' : Sta) : Prop := ∀ a w, St C σ a w → St C σ' a w
theorem AW.gh {c : Code} {σ' : Sta} (hg : Gh C σ σ') (h : AW C c Q σ') : AW C c Q σ := fun a w hs => h a w (hg a w hs)
theorem AWL.gh {ops : Array Oper} {l : List Oper} {σ' : Sta} (hg : Gh C σ σ') (h : AWL C ops Q l σ') : AWL C ops Q l σ := fun a w hs => h a w (hg a w hs)
/-- A nil slice is taken for a slice of one's own. -/
theorem Gh.nil {e : TypeId} {sz : Nat} (t : Nat) (ht : t < σ.n) (hv : σ.env t = .v (.slice none 0 0)) (hi : sizeIs C.P e sz) : Gh C σ ⟨upd σ.env t (.sl σ.T.slots.length σ.T.ep 0 0), pushT σ.T (.own e []), σ.n⟩ := by
  intro a w ⟨hd, hn, S, vals, bss, hm, he⟩
  obtain ⟨hm', hf⟩ := hm.push (Kept.refl _ _) (rep_nil (S := S) (w := w) hi) (by simp) (by simp)
  refine ⟨hd, hn, S, _, _, hm', fun q hq => ?_⟩
  show TmpOK _ _ _ _ _ _ (upd σ.env t _ q)
  unfold upd
  by_cases h : q = t
  · subst h
    rw [if_pos rfl]
    have h1 := he q hq
    rw [hv] at h1
    rw [h1.v]
    exact push_sl (S := S) hm.nv (rep_nil (S := S) (w := w) hi)
  · rw [if_neg h]
    exact TmpOK.follows hf (he q hq)
/-- The last slots are given up. -/
theorem Gh.drop (m : Nat) : Gh C σ ⟨σ.env, ⟨σ.T.slots.take m, σ.T.ep⟩, σ.n⟩ := by
  intro a w ⟨hd, hn, S, vals, bss, hm, he⟩
  have tk : ∀ {α : Type} (l : List α) (r : Nat) (x : α), (l.take m)[r]? = some x → r < m ∧ l[r]? = some x := fun l r x h => by
    rw [List.getElem?_take] at h
    split at h
    · exact ⟨by assumption, h⟩
    · cases h
  refine ⟨hd, hn, S, vals.take m, bss.take m, ⟨hm.kept, hm.s0, hm.sub, hm.lt, by simp [hm.nv], by simp [hm.nb], fun r k x v bs q1 q2 q3 => hm.rep r k x v bs (tk _ _ _ q1).2 (tk _ _ _ q2).2 (tk _ _ _ q3).2, fun r bs q => hm.nodup r bs (tk _ _ _ q).2, fun r r' b1 b2 hne q1 q2 => hm.disj r r' b1 b2 hne (tk _ _ _ q1).2 (tk _ _ _ q2).2, fun r bs q => hm.apart r bs (tk _ _ _ q).2, fun r bs q => hm.mine r bs (tk _ _ _ q).2, fun r x hlt q => ?_, fun r k x q => hm.ver r k x (tk _ _ _ q).2, hm.pos⟩, fun t ht => ?_⟩
  · obtain ⟨h1, h2⟩ := tk _ _ _ q
    rw [List.getElem?_take, if_pos h1]
    exact hm.root r x hlt h2
  · refine TmpOK.follows ?_ (he t ht)
    intro u x hx
    cases x with
    | sl r k off len => exact ⟨hx.1, hx.2.1, fun e es v sz q1 q2 q3 => hx.2.2 e es v sz (tk _ _ _ q1).2 (tk _ _ _ q2).2 q3⟩
    | ptr r k i j => exact ⟨hx.1, hx.2.1, fun e es v sz q1 q2 q3 => hx.2.2 e es v sz (tk _ _ _ q1).2 (tk _ _ _ q2).2 q3⟩
    | mp r k => exact ⟨hx.1, hx.2.1, fun b ks v q1 q2 => hx.2.2 b ks v (tk _ _ _ q1).2 (tk _ _ _ q2).2⟩
    | _ => exact hx
/-- Cells that own nothing. -/
def flatA : AV → Bool
  | .own _ _ => false
  | .om _ _ => false
  | _ => true
theorem Rep.flat {P : Program} {S : Nat → Prop} {w : World} {bs : List Nat} {u : Value} {x : AV} (h : Rep P S w bs u x) (hx : flatA x = true) : bs = [] := by
  cases h <;> first | rfl | cases hx
theorem rep_freeze {P : Program} {S : Nat → Prop} {w : World} {bs : List Nat} {v : Value} {e : TypeId} {es : List (List AV)} (h : Rep P S w bs v (.own e es)) (hx : ∀ r ∈ es, ∀ c ∈ r, flatA c = true) :
    ∃ (us : List Value) (A : Option Addr) (c sz : Nat), v = .slice A es.length c ∧ es.length ≤ c ∧ c ≤ maxLen ∧ (∀ x ∈ es, x.length = sz) ∧ sizeIs P e sz ∧ us.length = es.flatten.length ∧ (∀ (i : Nat) (u : Value) (x : AV), us[i]? = some u → es.flatten[i]? = some x → Rep P S w [] u x) ∧ (0 < us.length → ∃ g, A = some ⟨g, 0, none⟩ ∧ g ∈ bs ∧ ∀ j u, us[j]? = some u → w.cell? ⟨g, j, none⟩ = some u) := by
  obtain ⟨us, sz, bss, rfl, hi, hsz, hown, hul, hbl, hc⟩ := h.own_inv
  have hcc : ∀ (i : Nat) (u : Value) (x : AV), us[i]? = some u → es.flatten[i]? = some x → Rep P S w [] u x := fun i u x hu hx' => by
    have hlt : i < bss.length := by rw [hbl]; exact (List.getElem?_eq_some_iff.1 hu).1
    have hr := hc i u x _ hu hx' (List.getElem?_eq_getElem hlt)
    obtain ⟨r, hr1, hr2⟩ := List.mem_flatten.1 (List.mem_of_getElem? hx')
    have := hr.flat (hx r hr1 x hr2)
    rw [this] at hr
    exact hr
  rcases hown.2 with ⟨rfl, h0⟩ | ⟨g, cap, cur, rfl, -, hg, p1, p2, -⟩
  · refine ⟨us, none, 0, sz, by rw [h0], by omega, by unfold maxLen; omega, hsz, hi, hul, hcc, fun hn => ?_⟩
    have : es = [] := List.eq_nil_of_length_eq_zero h0
    rw [hul, this] at hn; simp at hn
  · refine ⟨us, _, cap, sz, rfl, p1, p2, hsz, hi, hul, hcc, fun _ => ⟨g, rfl, by simp [Value.ownBlock], fun j u hu => ?_⟩⟩
    have := hown.cells (g := g) rfl j u hu
    rw [add_off, Nat.zero_add] at this
    exact this
/-- A slot is frozen: from now on it is only read. -/
theorem Gh.freeze {e : TypeId} {es : List (List AV)} {r k len : Nat} (t : Nat) (ht : t < σ.n) (hv : σ.env t = .sl r k 0 len) (hT : σ.T.slots[r]? = some (k, .own e es)) (hx : ∀ r ∈ es, ∀ c ∈ r, flatA c = true) {es' : List (List AV)} (he' : es.take len = es') :
    Gh C σ ⟨upd σ.env t (.ro es'), ⟨σ.T.slots.set r (k, .any), σ.T.ep⟩, σ.n⟩ := by
  intro a w ⟨hd, hn, S, vals, bss, hm, he⟩
  obtain ⟨v, bs, hv2, hb, hrep⟩ := hm.slot hT
  obtain ⟨us, A, c, sz, hve, p1, p2, hsz, hi, hul, hcc, hcell⟩ := rep_freeze hrep hx
  have hrl : r < σ.T.slots.length := (List.getElem?_eq_some_iff.1 hT).1
  have hSS : ∀ q, S q → S q ∨ q ∈ bs := fun q h => .inl h
  have hf : Follows C.P S w σ.T vals (fun q => S q ∨ q ∈ bs) w ⟨σ.T.slots.set r (k, .any), σ.T.ep⟩ vals := by
    intro u x hx
    have key2 : ∀ (q kq : Nat) (x : AV), (σ.T.slots.set r (k, .any))[q]? = some (kq, x) → x ≠ .any → σ.T.slots[q]? = some (kq, x) := by
      intro q kq x q1 hne
      rw [getElem?_set_ _ _ _ _ hrl] at q1
      split at q1
      · injection q1 with q1; injection q1 with _ q1; exact absurd q1.symm hne
      · exact q1
    cases x with
    | sl r k off len => exact ⟨hx.1, hx.2.1, fun e es v sz q1 q2 q3 => hx.2.2 e es v sz (key2 _ _ _ q1 (by simp)) q2 q3⟩
    | ptr r k i j => exact ⟨hx.1, hx.2.1, fun e es v sz q1 q2 q3 => hx.2.2 e es v sz (key2 _ _ _ q1 (by simp)) q2 q3⟩
    | mp r k => exact ⟨hx.1, hx.2.1, fun b ks v q1 q2 => hx.2.2 b ks v (key2 _ _ _ q1 (by simp)) q2⟩
    | _ => exact RefOK.kept (T := σ.T) (vals := vals) hx (Kept.refl (fun _ => True) w) (fun _ _ _ => trivial) hSS
  have hbt : ∀ (q : Nat) (b1 : List Nat), (bss.set r [])[q]? = some b1 → (b1 = [] ∧ q = r) ∨ (q ≠ r ∧ bss[q]? = some b1) := by
    intro q b1 h
    rw [getElem?_set_ _ _ _ _ (by rw [hm.nb]; exact hrl)] at h
    split at h
    · rename_i e1; injection h with h; exact .inl ⟨h.symm, e1.symm⟩
    · rename_i e1; exact .inr ⟨fun e => e1 e.symm, h⟩
  refine ⟨hd, hn, fun q => S q ∨ q ∈ bs, vals, bss.set r [], ⟨hm.kept, fun q h => .inl (hm.s0 q h), fun q h => ?_, fun q h => ?_, by simp [hm.nv], by simp [hm.nb], ?_, ?_, ?_, ?_, ?_, ?_, ?_, hm.pos⟩, fun q hq => ?_⟩
  · rcases h with h | h
    · exact hm.sub q h
    · rcases hm.mine r bs hb q h with h | h
      · exact .inr (.inl h)
      · exact .inr (.inr h)
  · rcases h with h | h
    · exact hm.lt q h
    · exact hm.blt hb q h
  · intro q kq y u b1 q1 q2 q3
    rw [getElem?_set_ _ _ _ _ hrl] at q1
    rcases hbt q b1 q3 with ⟨rfl, rfl⟩ | ⟨hne, q4⟩
    · rw [if_pos rfl] at q1
      injection q1 with q1; injection q1 with _ q1
      subst q1
      rw [hv2] at q2
      injection q2 with q2
      subst q2
      exact .any hrep.one
    · rw [if_neg (fun e => hne e.symm)] at q1
      exact (hm.rep q kq y u b1 q1 q2 q4).mono fun _ _ h => .inl h
  · intro q b1 q1
    rcases hbt q b1 q1 with ⟨rfl, rfl⟩ | ⟨hne, q4⟩
    · simp
    · exact hm.nodup q b1 q4
  · intro q q' b1 b2 hne q1 q2 b hb1 hb2
    rcases hbt q b1 q1 with ⟨rfl, rfl⟩ | ⟨hne1, q4⟩
    · simp at hb1
    · rcases hbt q' b2 q2 with ⟨rfl, rfl⟩ | ⟨hne2, q5⟩
      · simp at hb2
      · exact hm.disj q q' b1 b2 hne q4 q5 b hb1 hb2
  · intro q b1 q1 b hb1 hS
    rcases hbt q b1 q1 with ⟨rfl, rfl⟩ | ⟨hne1, q4⟩
    · simp at hb1
    · rcases hS with hS | hS
      · exact hm.apart q b1 q4 b hb1 hS
      · exact hm.disj q r b1 bs hne1 q4 hb b hb1 hS
  · intro q b1 q1 b hb1
    rcases hbt q b1 q1 with ⟨rfl, rfl⟩ | ⟨hne1, q4⟩
    · simp at hb1
    · exact hm.mine q b1 q4 b hb1
  · intro q y hlt q1
    rw [getElem?_set_ _ _ _ _ hrl] at q1
    split at q1
    · rename_i e1
      injection q1 with q1; injection q1 with q1 _
      subst e1
      exact hm.root r _ hlt (by rw [hT, q1])
    · exact hm.root q y hlt q1
  · intro q kq y q1
    rw [getElem?_set_ _ _ _ _ hrl] at q1
    split at q1
    · injection q1 with q1; injection q1 with q1 _
      rw [← q1]; exact hm.ver r k _ hT
    · exact hm.ver q kq y q1
  · show TmpOK _ _ _ _ _ _ (upd σ.env t _ q)
    unfold upd
    by_cases h : q = t
    · subst h
      rw [if_pos rfl]
      have h1 := he q hq
      rw [hv] at h1
      obtain ⟨hol, A0, nn, cap, hve2, g3, g4, g5, g6⟩ := h1.2.2 e es v sz hT hv2 hi
      rw [hve] at hve2
      injection hve2 with s1 s2 s3
      subst s1; subst s3
      have hu : a.tmps.getD q undef = .slice A len c := by
        rcases g6 with ⟨-, h8⟩ | ⟨A', h8, _⟩
        · exact h8
        · omega
      rw [hu]
      subst he'
      have hll : (es.take len).length = len := by rw [List.length_take]; omega
      have hfc := flat_cut hsz 0 len
      rw [Nat.zero_mul, List.drop_zero, List.drop_zero] at hfc
      suffices hh : Rep C.P (fun q => S q ∨ q ∈ bs) w [] (.slice A (es.take len).length c) (.ro (es.take len)) by rw [hll] at hh; exact hh
      refine Rep.ro (sz := sz) (us := us.take (len * sz)) (by rw [hll]; omega) p2 (fun x hx => hsz x (List.mem_of_mem_take hx)) (fun hn => ?_) ?_ ?_
      · obtain ⟨g, r1, r2, r3⟩ := hcell (by rw [List.length_take] at hn; omega)
        refine ⟨g, 0, r1, .inr r2, fun j u hu => ?_⟩
        rw [List.getElem?_take] at hu
        split at hu
        · rw [Nat.zero_add]; exact r3 j u hu
        · cases hu
      · rw [hfc, List.length_take, List.length_take, hul]
      · intro i u x hu hx
        rw [hfc, List.getElem?_take] at hx
        rw [List.getElem?_take] at hu
        split at hu
        · rename_i hlt
          rw [if_pos hlt] at hx
          exact (hcc i u x hu hx).mono fun _ _ h => .inl h
        · cases hu
    · rw [if_neg h]
      exact TmpOK.follows hf (he q hq)
end
end Go.Proofs.Ytngfknoddphhaaa
