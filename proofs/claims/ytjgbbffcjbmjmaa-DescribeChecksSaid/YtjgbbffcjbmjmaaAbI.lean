import Derived.Test.YtjgbbffcjbmjmaaAbH
namespace Go.Proofs.Ytjgbbffcjbmjmaa
open Go.RowKit
set_option linter.unusedSimpArgs false
set_option linter.unusedVariables false

/-! ### Regions that draw their order, where the last operation waits for the others through others -/
section
variable {C : Cx} {ops : Array Oper} {Q : Exit → Sta → Prop} {Ok : Sl → Prop}
def lastT (ops : Array Oper) (o : Oper) (i : Nat) : Bool := (List.range ops.size).all fun q => q == i || (o.after.any fun e => Region.binds .any e && e.on == q) || o.after.any fun e => Region.binds .any e && match ops[e.on]? with | some o2 => o2.after.any fun e2 => Region.binds .any e2 && e2.on == q | none => false
def Clo (ops : Array Oper) (listed : Array Bool) : Prop := ∀ j oj, ops[j]? = some oj → listed.getD j false = true → ∀ e ∈ oj.after, Region.binds .any e = true → listed.getD e.on false = true
theorem Clo.nil {n : Nat} : Clo ops (Array.replicate n false) := fun j oj _ h => by
  simp [Array.getD] at h
theorem getD_set_true {l : Array Bool} {i q : Nat} (h : l.getD q false = true) : (l.setIfInBounds i true).getD q false = true := by
  simp only [Array.getD_eq_getD_getElem?, Array.getElem?_setIfInBounds] at h ⊢
  by_cases hq : i = q
  · subst hq
    by_cases hs : i < l.size
    · simp [hs]
    · rw [Array.getElem?_eq_none (by omega)] at h; cases h
  · rw [if_neg hq]; exact h
theorem Clo.set {l : Array Bool} {i : Nat} (h : Clo ops l) (hr : i ∈ Region.ready .any ops l) : Clo ops (l.setIfInBounds i true) := fun j oj hj hl e he hb => by
  by_cases hij : i = j
  · subst hij
    obtain ⟨_, o, ho, hall⟩ := mem_ready.1 hr
    have : o = oj := Option.some.inj (ho.symm.trans hj)
    subst this
    exact getD_set_true (hall e he hb)
  · refine getD_set_true (h j oj hj ?_ e he hb)
    simpa only [Array.getD_eq_getD_getElem?, Array.getElem?_setIfInBounds, if_neg hij] using hl
theorem lastT_on {o : Oper} {i q : Nat} {l : Array Bool} (h : lastT ops o i = true) (hc : Clo ops l) (ho : ∀ e ∈ o.after, Region.binds .any e = true → l.getD e.on false = true) (hq : q < ops.size) (hne : q ≠ i) : l.getD q false = true := by
  unfold lastT at h
  have := List.all_eq_true.1 h q (List.mem_range.2 hq)
  simp only [Bool.or_eq_true, beq_iff_eq, Array.any_eq_true', Bool.and_eq_true] at this
  rcases this with (h | ⟨e, he, h1, h2⟩) | ⟨e, he, h1, h2⟩
  · exact absurd h hne
  · rw [← h2]; exact ho e he h1
  · cases h3 : ops[e.on]? with
    | none => rw [h3] at h2; cases h2
    | some o2 =>
      rw [h3] at h2
      simp only [Array.any_eq_true', Bool.and_eq_true, beq_iff_eq] at h2
      obtain ⟨e2, he2, hb2, rfl⟩ := h2
      exact hc _ _ h3 (ho e he h1) e2 he2 hb2
def AE (C : Cx) (ops : Array Oper) (Q : Exit → Sta → Prop) (Ok : Sl → Prop) : Nat → Array Bool → Sta → Prop
  | 0, listed, σ => Region.ready .any ops listed = [] ∧ Q .normal σ
  | f + 1, listed, σ => Clo ops listed → (Region.ready .any ops listed = [] → Q .normal σ) ∧ ∀ i ∈ Region.ready .any ops listed, ∃ o x T', ops[i]? = some o ∧ o.guard = none ∧ opsOk o σ.n = true ∧ OpJ C o (evA σ.env) σ.T x T' ∧ (Ok T' ∨ lastT ops o i = true) ∧ AE C ops Q Ok f (listed.setIfInBounds i true) ⟨putE σ.env o.dst x, T', σ.n⟩
theorem AE.any : ∀ (f : Nat) (listed : Array Bool) (σ : Sta), Clo ops listed → AE C ops Q Ok f listed σ → AWAny C ops Q f listed σ
  | 0, _, _, _, h => AWAny.done h.1 h.2
  | f + 1, listed, σ, hc, h => by
    by_cases hr : Region.ready .any ops listed = []
    · exact AWAny.done hr ((h hc).1 hr)
    · refine AWAny.all rfl hr fun i hi => ?_
      obtain ⟨o, x, T', h1, h2, h3, h4, _, h6⟩ := (h hc).2 i hi
      exact AWOp.op h1 h2 h3 h4 (AE.any f _ _ (hc.set hi) h6)
theorem AE.first {i : Nat} {oi : Oper} {x : AV} {n : Nat} {ev0 : Operand → AV} (hi : ops[i]? = some oi) (hg : oi.guard = none) (hok : opsOk oi n = true) (hj : ∀ T', Ok T' → OpJ C oi ev0 T' x T') :
    ∀ (f : Nat) (listed : Array Bool) (env : Nat → AV) (T : Sl),
      (∀ j oj, ops[j]? = some oj → j ≠ i → listed.getD j true = false → (∀ e ∈ oj.after, Region.binds .any e = true → e.on ≠ i) → oi.apart ops oj = true) →
      i ∈ Region.ready .any ops listed → (∀ y ∈ oi.op.operands, evA env y = ev0 y) → Ok T →
      AE C ops Q Ok f (listed.setIfInBounds i true) ⟨putE env oi.dst x, T, n⟩ → AE C ops Q Ok (f + 1) listed ⟨env, T, n⟩ := by
  intro f
  induction f with
  | zero =>
    intro listed env T _ hr hev hT H hc
    refine ⟨fun h => (by rw [h] at hr; cases hr), fun j hjr => ?_⟩
    by_cases hji : j = i
    · subst hji; exact ⟨oi, x, T, hi, hg, hok, (hj T hT).congr hev, .inl hT, H⟩
    · have := ready_mono hjr hji
      rw [H.1] at this
      cases this
  | succ f ih =>
    intro listed env T hfree hr hev hT H hc
    have hun := (mem_ready.1 hr).1
    refine ⟨fun h => (by rw [h] at hr; cases hr), fun j hjr => ?_⟩
    by_cases hji : j = i
    · subst hji; exact ⟨oi, x, T, hi, hg, hok, (hj T hT).congr hev, .inl hT, H⟩
    · obtain ⟨oj, y, T', h1, h2, h3, h4, h5, h6⟩ := (H (hc.set hr)).2 j (ready_mono hjr hji)
      obtain ⟨hjun, oj', hoj, hall⟩ := mem_ready.1 hjr
      have : oj' = oj := Option.some.inj (hoj.symm.trans h1)
      subst this
      have hnot : ∀ e ∈ oj'.after, Region.binds .any e = true → e.on ≠ i := fun e he hb heq => by
        have h1 := hall e he hb
        rw [heq, getD_both hun] at h1
        cases h1
      replace h5 : Ok T' := by
        rcases h5 with h5 | h5
        · exact h5
        · have h7 := lastT_on h5 hc hall (Array.getElem?_eq_some_iff.1 hi).1 (Ne.symm hji)
          rw [getD_both hun] at h7
          cases h7
      obtain ⟨a1, a2, a3⟩ := Oper.apart_spec (hfree j oj' hoj hji hjun hnot)
      have hfree' : ∀ k ok, ops[k]? = some ok → k ≠ i → (listed.setIfInBounds j true).getD k true = false → (∀ e ∈ ok.after, Region.binds .any e = true → e.on ≠ i) → oi.apart ops ok = true := fun k ok hk hki hun hno => by
        refine hfree k ok hk hki ?_ hno
        by_cases hjk : j = k
        · subst hjk; exact hjun
        · rw [getD_set_ne true hjk] at hun; exact hun
      refine ⟨oj', y, T', h1, h2, h3, h4.congr fun q hq => (evA_put a1 q hq).symm, .inl h5, ?_⟩
      refine ih _ _ _ hfree' (ready_mono hr (Ne.symm hji)) (fun q hq => (evA_put a3 q hq).trans (hev q hq)) h5 ?_
      rw [Array.setIfInBounds_comm _ _ hji]
      rw [putE_comm (fun t ht ht' => a2 t ht ht')] at h6
      exact h6
end
section
variable {C : Cx} {Q : Exit → Sta → Prop} {ops : Array Oper} {Ok : Sl → Prop} {fuel : Nat} {listed : Array Bool} {o : Oper} {env : Nat → AV} {T T' : Sl} {n : Nat} {x : AV}
theorem AW.aeo {σ : Sta} {i n : Nat} {l : List Oper} (Ok : Sl → Prop) (hm : C.P.follows .mixedOrders = true) (hn : l.toArray.size = n) (h : AE C l.toArray Q Ok n (Array.replicate n false) σ) : AW C (.region i l.toArray true) Q σ := by
  subst hn
  exact AW.region_any hm (AE.any _ _ _ Clo.nil h)
theorem aeFo (i : Nat) (hi : ops.toList[i]? = some o) (hj : ∀ T', Ok T' → OpJ C o (evA env) T' x T') (hT : Ok T) (hr : (Region.ready .any ops listed).contains i = true) (hf : Region.free .any ops listed i = true) (h : AE C ops Q Ok fuel (listed.setIfInBounds i true) ⟨putE env o.dst x, T, n⟩)
    (hg : o.guard = none := by rfl) (ho : opsOk o n = true := by rfl) : AE C ops Q Ok (fuel + 1) listed ⟨env, T, n⟩ :=
  AE.first (atL hi) hg ho hj fuel listed env T (Region.free_spec (atL hi) hf) (by simpa using hr) (fun _ _ => rfl) hT h
theorem aePo (i : Nat) (hi : ops.toList[i]? = some o) (hj : ∀ T', Ok T' → OpP C o (evA env) T' x) (hT : Ok T) (hr : (Region.ready .any ops listed).contains i = true) (hf : Region.free .any ops listed i = true) (h : AE C ops Q Ok fuel (listed.setIfInBounds i true) ⟨putE env o.dst x, T, n⟩)
    (hg : o.guard = none := by rfl) (ho : opsOk o n = true := by rfl) : AE C ops Q Ok (fuel + 1) listed ⟨env, T, n⟩ := aeFo i hi (fun T' h => (hj T' h).j) hT hr hf h hg ho
theorem aeRo (i : Nat) (hi : ops.toList[i]? = some o) (hj : ∀ T', Ok T' → OpR C o (evA env) T' x) (hT : Ok T) (hr : (Region.ready .any ops listed).contains i = true) (hf : Region.free .any ops listed i = true) (h : AE C ops Q Ok fuel (listed.setIfInBounds i true) ⟨putE env o.dst x, T, n⟩)
    (hg : o.guard = none := by rfl) (ho : opsOk o n = true := by rfl) : AE C ops Q Ok (fuel + 1) listed ⟨env, T, n⟩ := aeFo i hi (fun T' h => (hj T' h).j) hT hr hf h hg ho
theorem aeQo (i : Nat) (hi : ops.toList[i]? = some o) (hj : ∀ T', Ok T' → OpQ C o (evA env) T' x) (hT : Ok T) (hr : (Region.ready .any ops listed).contains i = true) (hf : Region.free .any ops listed i = true) (h : AE C ops Q Ok fuel (listed.setIfInBounds i true) ⟨putE env o.dst x, T, n⟩)
    (hg : o.guard = none := by rfl) (ho : opsOk o n = true := by rfl) : AE C ops Q Ok (fuel + 1) listed ⟨env, T, n⟩ := aeFo i hi (fun T' h => (hj T' h).j) hT hr hf h hg ho
/-- The only operation that may come up. -/
theorem aeJo (i : Nat) (hi : ops.toList[i]? = some o) (hj : OpJ C o (evA env) T x T') (hr : Region.ready .any ops listed = [i]) (hT : Ok T') (h : AE C ops Q Ok fuel (listed.setIfInBounds i true) ⟨putE env o.dst x, T', n⟩) (hg : o.guard = none := by rfl) (ho : opsOk o n = true := by rfl) : AE C ops Q Ok (fuel + 1) listed ⟨env, T, n⟩ :=
  fun _ => ⟨fun h0 => (by rw [hr] at h0; cases h0), fun j hj' => by
    rw [hr] at hj'
    obtain rfl : j = i := by simpa using hj'
    exact ⟨o, x, T', atL hi, hg, ho, hj, .inl hT, h⟩⟩
theorem aeDoneo (hr : Region.ready .any ops listed = []) (h : Q .normal ⟨env, T, n⟩) : AE C ops Q Ok fuel listed ⟨env, T, n⟩ := by
  cases fuel with
  | zero => exact ⟨hr, h⟩
  | succ f => exact fun _ => ⟨fun _ => h, fun i hi => by rw [hr] at hi; cases hi⟩
/-- The last one, which waits for all others. -/
theorem aeLo (i : Nat) (hi : ops.toList[i]? = some o) (hj : OpJ C o (evA env) T x T') (hr : Region.ready .any ops listed = [i]) (hl : lastT ops o i = true) (h : AE C ops Q Ok fuel (listed.setIfInBounds i true) ⟨putE env o.dst x, T', n⟩) (hg : o.guard = none := by rfl) (ho : opsOk o n = true := by rfl) : AE C ops Q Ok (fuel + 1) listed ⟨env, T, n⟩ :=
  fun _ => ⟨fun h0 => (by rw [hr] at h0; cases h0), fun j hj' => by
    rw [hr] at hj'
    obtain rfl : j = i := by simpa using hj'
    exact ⟨o, x, T', atL hi, hg, ho, hj, .inr hl, h⟩⟩
/-- Two operations may come next. -/
theorem aeJ2o (i1 i2 : Nat) {o1 o2 : Oper} {x1 x2 : AV} {T1 T2 : Sl} (h1 : ops.toList[i1]? = some o1) (h2 : ops.toList[i2]? = some o2) (hj1 : OpJ C o1 (evA env) T x1 T1) (hj2 : OpJ C o2 (evA env) T x2 T2) (hr : Region.ready .any ops listed = [i1, i2]) (hT1 : Ok T1) (hT2 : Ok T2)
    (k1 : AE C ops Q Ok fuel (listed.setIfInBounds i1 true) ⟨putE env o1.dst x1, T1, n⟩) (k2 : AE C ops Q Ok fuel (listed.setIfInBounds i2 true) ⟨putE env o2.dst x2, T2, n⟩)
    (hg1 : o1.guard = none := by rfl) (hg2 : o2.guard = none := by rfl) (ho1 : opsOk o1 n = true := by rfl) (ho2 : opsOk o2 n = true := by rfl) : AE C ops Q Ok (fuel + 1) listed ⟨env, T, n⟩ := by
  refine fun _ => ⟨fun h => (by rw [h] at hr; cases hr), fun j hj => ?_⟩
  rw [hr] at hj
  simp only [List.mem_cons, List.not_mem_nil, or_false] at hj
  rcases hj with rfl | rfl
  · exact ⟨o1, x1, T1, atL h1, hg1, ho1, hj1, .inl hT1, k1⟩
  · exact ⟨o2, x2, T2, atL h2, hg2, ho2, hj2, .inl hT2, k2⟩
end
section
variable {C : Cx} {o : Oper} {ev : Operand → AV} {T : Sl}
/-- A new slice that is only read from the start: no slot changes. -/
theorem OpJ.frz {e : TypeId} {es : List (List AV)} {n : Nat} (h : OpJ C o ev T (.sl T.slots.length T.ep 0 n) (pushT T (.own e es))) (hx : ∀ r ∈ es, ∀ c ∈ r, flatA c = true) (hn : es.length = n) : OpJ C o ev T (.ro es) T := by
  subst hn
  intro a w S vals bss hm0 ho K hK Q
  refine h a w S vals bss hm0 ho K (fun v w' S' vals' bss' hm hf hv => ?_) Q
  have hT : (pushT T (.own e es)).slots[T.slots.length]? = some (T.ep, .own e es) := by simp [pushT]
  have hlt : ∀ r, r < T.slots.length → (pushT T (.own e es)).slots[r]? = T.slots[r]? := fun r hr => by
    show (T.slots ++ [_])[r]? = _
    rw [List.getElem?_append_left hr]
  have hle : T.slots.length ≤ (pushT T (.own e es)).slots.length := by simp [pushT]
  obtain ⟨v2, bs, hv2, hb, hrep⟩ := hm.slot hT
  obtain ⟨us, A, c, sz, hve, p1, p2, hsz, hi, hul, hcc, hcell⟩ := rep_freeze hrep hx
  have tk : ∀ {α : Type} (l : List α) (r : Nat) (x : α), (l.take T.slots.length)[r]? = some x → r < T.slots.length ∧ l[r]? = some x := fun l r x h => by
    rw [List.getElem?_take] at h
    split at h
    · exact ⟨by assumption, h⟩
    · cases h
  have hup : ∀ (r k : Nat) (x : AV), T.slots[r]? = some (k, x) → (pushT T (.own e es)).slots[r]? = some (k, x) := fun r k x hr => by
    rw [hlt r (List.getElem?_eq_some_iff.1 hr).1]; exact hr
  refine hK v w' (fun q => S' q ∨ q ∈ bs) (vals'.take T.slots.length) (bss'.take T.slots.length) ⟨hm.kept, fun q h => .inl (hm.s0 q h), fun q h => ?_, fun q h => ?_, by rw [List.length_take, hm.nv]; omega, by rw [List.length_take, hm.nb]; omega,
    fun r k x v bs q1 q2 q3 => (hm.rep r k x v bs (hup _ _ _ q1) (tk _ _ _ q2).2 (tk _ _ _ q3).2).mono fun _ _ h => .inl h, fun r bs q => hm.nodup r bs (tk _ _ _ q).2, fun r r' b1 b2 hne q1 q2 => hm.disj r r' b1 b2 hne (tk _ _ _ q1).2 (tk _ _ _ q2).2, fun r b1 q b hb1 hS => ?_, fun r bs q => hm.mine r bs (tk _ _ _ q).2, fun r x hlt' q => ?_, hm0.ver, hm0.pos⟩ ?_ ?_
  · rcases h with h | h
    · exact hm.sub q h
    · exact (hm.mine _ bs hb q h).elim (fun h => .inr (.inl h)) (fun h => .inr (.inr h))
  · rcases h with h | h
    · exact hm.lt q h
    · exact hm.blt hb q h
  · obtain ⟨q1, q2⟩ := tk _ _ _ q
    rcases hS with hS | hS
    · exact hm.apart r b1 q2 b hb1 hS
    · exact hm.disj r _ b1 bs (by omega) q2 hb b hb1 hS
  · have h1 := (List.getElem?_eq_some_iff.1 q).1
    rw [List.getElem?_take, if_pos h1]
    exact hm.root r x hlt' (hup _ _ _ q)
  · intro u x hx
    have hx' := hf u x hx
    cases x with
    | sl r k off len => exact ⟨hx.1, hx.2.1, fun e es v sz q1 q2 q3 => hx'.2.2 e es v sz (hup _ _ _ q1) (tk _ _ _ q2).2 q3⟩
    | ptr r k i j => exact ⟨hx.1, hx.2.1, fun e es v sz q1 q2 q3 => hx'.2.2 e es v sz (hup _ _ _ q1) (tk _ _ _ q2).2 q3⟩
    | mp r k => exact ⟨hx.1, hx.2.1, fun b ks v q1 q2 => hx'.2.2 b ks v (hup _ _ _ q1) (tk _ _ _ q2).2⟩
    | _ => exact RefOK.kept hx' (Kept.refl (fun _ => True) w') (fun _ _ _ => trivial) (fun _ h => .inl h)
  · obtain ⟨hol, A0, nn, cap, hve2, g3, g4, g5, g6⟩ := hv.2.2 e es v2 sz hT hv2 hi
    rw [hve] at hve2
    injection hve2 with s1 s2 s3
    subst s1; subst s3
    have hu : v = .slice A es.length c := by
      rcases g6 with ⟨-, h8⟩ | ⟨A', h8, _⟩
      · exact h8
      · omega
    subst hu
    refine Rep.ro (sz := sz) (us := us) p1 p2 hsz (fun hn => ?_) hul fun i u x hu hx => (hcc i u x hu hx).mono fun _ _ h => .inl h
    obtain ⟨g, r1, r2, r3⟩ := hcell hn
    exact ⟨g, 0, r1, .inr r2, fun j u hu => by rw [Nat.zero_add]; exact r3 j u hu⟩
end
end Go.Proofs.Ytjgbbffcjbmjmaa
