import Derived.Test.YtjgbbffcjbmjmaaAbM
namespace Go.Proofs.Ytjgbbffcjbmjmaa
open Go.RowKit
set_option linter.unusedSimpArgs false
set_option linter.unusedVariables false

/-! ### Regions that draw their order: the first `k` operations need the slots as they were, the rest waits for all of them -/
section
variable {C : Cx} {ops : Array Oper} {Q : Exit → Sta → Prop} {Ok : Sl → Prop} {k : Nat}
def bindB (o : Oper) (i : Nat) : Bool := o.after.any fun e => Region.binds .any e && e.on == i
def bindAt (ops : Array Oper) (q i : Nat) : Bool := match ops[q]? with | some o => bindB o i | none => false
def topB (ops : Array Oper) (k : Nat) : Bool := (List.range k).all fun i => ((List.range k).any fun q => decide (i < q) && bindAt ops q i) || (List.range ops.size).all fun j => decide (j < k) || bindAt ops j i
def dcB (ops : Array Oper) (listed : Array Bool) : Bool := (List.range ops.size).all fun q => !listed.getD q true || (match ops[q]? with | some o => o.after.all fun e => !Region.binds .any e || listed.getD e.on true | none => true)
def DCl (ops : Array Oper) (listed : Array Bool) : Prop := ∀ q o, ops[q]? = some o → listed.getD q true = true → ∀ e ∈ o.after, Region.binds .any e = true → listed.getD e.on true = true
theorem dcB_spec {listed : Array Bool} (h : dcB ops listed = true) : DCl ops listed := fun q o ho hl e he hb => by
  unfold dcB at h
  have := List.all_eq_true.1 h q (List.mem_range.2 (Array.getElem?_eq_some_iff.1 ho).1)
  rw [ho] at this
  simp only [hl, Bool.not_true, Bool.false_or] at this
  have := Array.all_eq_true'.1 this e he
  simpa [hb] using this
theorem bindB_spec {o : Oper} {i : Nat} (h : bindB o i = true) : ∃ e ∈ o.after, Region.binds .any e = true ∧ e.on = i := by
  unfold bindB at h
  rw [Array.any_eq_true'] at h
  obtain ⟨e, he, h⟩ := h
  simp only [Bool.and_eq_true, beq_iff_eq] at h
  exact ⟨e, he, h.1, h.2⟩
theorem top_all {listed : Array Bool} (ht : topB ops k = true) (hd : DCl ops listed) {j : Nat} {oj : Oper} (hj : ops[j]? = some oj) (hkj : k ≤ j) (hr : ∀ e ∈ oj.after, Region.binds .any e = true → listed.getD e.on true = true) :
    ∀ n i, i < k → k - i = n → listed.getD i true = true := by
  intro n
  induction n using Nat.strongRecOn with
  | _ n ih =>
    intro i hi hn
    unfold topB at ht
    have := List.all_eq_true.1 ht i (List.mem_range.2 hi)
    simp only [Bool.or_eq_true] at this
    rcases this with h | h
    · obtain ⟨q, hq, h⟩ := List.any_eq_true.1 h
      simp only [Bool.and_eq_true, decide_eq_true_eq] at h
      have hqk := List.mem_range.1 hq
      have hql := ih (k - q) (by omega) q hqk rfl
      have h2 := h.2
      unfold bindAt at h2
      cases ho : ops[q]? with
      | none => rw [ho] at h2; cases h2
      | some o =>
        rw [ho] at h2
        obtain ⟨e, he, hb, rfl⟩ := bindB_spec h2
        exact hd q o ho hql e he hb
    · have h2 := List.all_eq_true.1 h j (List.mem_range.2 (Array.getElem?_eq_some_iff.1 hj).1)
      simp only [Bool.or_eq_true, decide_eq_true_eq] at h2
      rcases h2 with h2 | h2
      · omega
      · unfold bindAt at h2
        rw [hj] at h2
        obtain ⟨e, he, hb, rfl⟩ := bindB_spec h2
        exact hr e he hb
def ADk (C : Cx) (ops : Array Oper) (Q : Exit → Sta → Prop) (Ok : Sl → Prop) (k : Nat) : Nat → Array Bool → Sta → Prop
  | 0, listed, σ => Region.ready .any ops listed = [] ∧ Q .normal σ
  | f + 1, listed, σ => (Region.ready .any ops listed = [] → Q .normal σ) ∧ ∀ i ∈ Region.ready .any ops listed, ∃ o x T', ops[i]? = some o ∧ o.guard = none ∧ opsOk o σ.n = true ∧ OpJ C o (evA σ.env) σ.T x T' ∧ (Ok T' ∨ k ≤ i) ∧ ADk C ops Q Ok k f (listed.setIfInBounds i true) ⟨putE σ.env o.dst x, T', σ.n⟩
theorem ADk.any : ∀ (f : Nat) (listed : Array Bool) (σ : Sta), ADk C ops Q Ok k f listed σ → AWAny C ops Q f listed σ
  | 0, _, _, h => AWAny.done h.1 h.2
  | f + 1, listed, σ, h => by
    by_cases hr : Region.ready .any ops listed = []
    · exact AWAny.done hr (h.1 hr)
    · refine AWAny.all rfl hr fun i hi => ?_
      obtain ⟨o, x, T', h1, h2, h3, h4, _, h6⟩ := h.2 i hi
      exact AWOp.op h1 h2 h3 h4 (ADk.any f _ _ h6)
theorem ADk.first {i : Nat} {oi : Oper} {x : AV} {n : Nat} {ev0 : Operand → AV} (hik : i < k) (ht : topB ops k = true) (hi : ops[i]? = some oi) (hg : oi.guard = none) (hok : opsOk oi n = true) (hj : ∀ T', Ok T' → OpJ C oi ev0 T' x T') :
    ∀ (f : Nat) (listed : Array Bool) (env : Nat → AV) (T : Sl),
      DCl ops listed →
      (∀ j oj, ops[j]? = some oj → j ≠ i → listed.getD j true = false → (∀ e ∈ oj.after, Region.binds .any e = true → e.on ≠ i) → oi.apart ops oj = true) →
      i ∈ Region.ready .any ops listed → (∀ y ∈ oi.op.operands, evA env y = ev0 y) → Ok T →
      ADk C ops Q Ok k f (listed.setIfInBounds i true) ⟨putE env oi.dst x, T, n⟩ → ADk C ops Q Ok k (f + 1) listed ⟨env, T, n⟩ := by
  intro f
  induction f with
  | zero =>
    intro listed env T _ _ hr hev hT H
    refine ⟨fun h => (by rw [h] at hr; cases hr), fun j hjr => ?_⟩
    by_cases hji : j = i
    · subst hji; exact ⟨oi, x, T, hi, hg, hok, (hj T hT).congr hev, .inl hT, H⟩
    · have := ready_mono hjr hji
      rw [H.1] at this
      cases this
  | succ f ih =>
    intro listed env T hdc hfree hr hev hT H
    have hun := (mem_ready.1 hr).1
    refine ⟨fun h => (by rw [h] at hr; cases hr), fun j hjr => ?_⟩
    by_cases hji : j = i
    · subst hji; exact ⟨oi, x, T, hi, hg, hok, (hj T hT).congr hev, .inl hT, H⟩
    · obtain ⟨oj, y, T', h1, h2, h3, h4, h5, h6⟩ := H.2 j (ready_mono hjr hji)
      obtain ⟨hjun, oj', hoj, hall⟩ := mem_ready.1 hjr
      have : oj' = oj := Option.some.inj (hoj.symm.trans h1)
      subst this
      have hnot : ∀ e ∈ oj'.after, Region.binds .any e = true → e.on ≠ i := fun e he hb heq => by
        have h1 := hall e he hb
        rw [heq, getD_both hun] at h1
        cases h1
      have hready : ∀ e ∈ oj'.after, Region.binds .any e = true → listed.getD e.on true = true := fun e he hb => by
        have := hall e he hb
        cases hq : listed.getD e.on true with
        | true => rfl
        | false => rw [getD_both hq] at this; cases this
      replace h5 : Ok T' := by
        rcases h5 with h5 | h5
        · exact h5
        · have := top_all ht hdc h1 h5 hready _ i hik rfl
          rw [this] at hun
          cases hun
      obtain ⟨a1, a2, a3⟩ := Oper.apart_spec (hfree j oj' hoj hji hjun hnot)
      have hfree' : ∀ k ok, ops[k]? = some ok → k ≠ i → (listed.setIfInBounds j true).getD k true = false → (∀ e ∈ ok.after, Region.binds .any e = true → e.on ≠ i) → oi.apart ops ok = true := fun k ok hk hki hun hno => by
        refine hfree k ok hk hki ?_ hno
        by_cases hjk : j = k
        · subst hjk; exact hjun
        · rw [getD_set_ne true hjk] at hun; exact hun
      have hdc' : DCl ops (listed.setIfInBounds j true) := fun q o ho hq e he hb => by
        by_cases hje : j = e.on
        · rw [← hje]
          by_cases hs : j < listed.size
          · simp [Array.getD_eq_getD_getElem?, hs]
          · simp [Array.getD_eq_getD_getElem?, hs]
        · rw [getD_set_ne true hje]
          by_cases hjq : j = q
          · subst hjq
            have : o = oj' := Option.some.inj (ho.symm.trans hoj)
            subst this
            exact hready e he hb
          · rw [getD_set_ne true hjq] at hq
            exact hdc q o ho hq e he hb
      refine ⟨oj', y, T', h1, h2, h3, h4.congr fun q hq => (evA_put a1 q hq).symm, .inl h5, ?_⟩
      refine ih _ _ _ hdc' hfree' (ready_mono hr (Ne.symm hji)) (fun q hq => (evA_put a3 q hq).trans (hev q hq)) h5 ?_
      rw [Array.setIfInBounds_comm _ _ hji]
      rw [putE_comm (fun t ht ht' => a2 t ht ht')] at h6
      exact h6
theorem AW.adk {σ : Sta} {i n : Nat} {l : List Oper} (k : Nat) (Ok : Sl → Prop) (hm : C.P.follows .mixedOrders = true) (hn : l.toArray.size = n) (h : ADk C l.toArray Q Ok k n (Array.replicate n false) σ) : AW C (.region i l.toArray true) Q σ := by
  subst hn
  exact AW.region_any hm (ADk.any _ _ _ h)
variable {fuel : Nat} {listed : Array Bool} {o : Oper} {env : Nat → AV} {T T' : Sl} {n : Nat} {x : AV}
theorem akF (i : Nat) (hi : ops.toList[i]? = some o) (hj : ∀ T', Ok T' → OpJ C o (evA env) T' x T') (hT : Ok T) (hc : (topB ops k && (dcB ops listed && decide (i < k))) = true) (hr : (Region.ready .any ops listed).contains i = true) (hf : Region.free .any ops listed i = true) (h : ADk C ops Q Ok k fuel (listed.setIfInBounds i true) ⟨putE env o.dst x, T, n⟩)
    (hg : o.guard = none := by rfl) (ho : opsOk o n = true := by rfl) : ADk C ops Q Ok k (fuel + 1) listed ⟨env, T, n⟩ := by
  simp only [Bool.and_eq_true, decide_eq_true_eq] at hc
  exact ADk.first hc.2.2 hc.1 (atL hi) hg ho hj fuel listed env T (dcB_spec hc.2.1) (Region.free_spec (atL hi) hf) (by simpa using hr) (fun _ _ => rfl) hT h
theorem akP (i : Nat) (hi : ops.toList[i]? = some o) (hj : ∀ T', Ok T' → OpP C o (evA env) T' x) (hT : Ok T) (hc : (topB ops k && (dcB ops listed && decide (i < k))) = true) (hr : (Region.ready .any ops listed).contains i = true) (hf : Region.free .any ops listed i = true) (h : ADk C ops Q Ok k fuel (listed.setIfInBounds i true) ⟨putE env o.dst x, T, n⟩)
    (hg : o.guard = none := by rfl) (ho : opsOk o n = true := by rfl) : ADk C ops Q Ok k (fuel + 1) listed ⟨env, T, n⟩ := akF i hi (fun T' h => (hj T' h).j) hT hc hr hf h hg ho
theorem akR (i : Nat) (hi : ops.toList[i]? = some o) (hj : ∀ T', Ok T' → OpR C o (evA env) T' x) (hT : Ok T) (hc : (topB ops k && (dcB ops listed && decide (i < k))) = true) (hr : (Region.ready .any ops listed).contains i = true) (hf : Region.free .any ops listed i = true) (h : ADk C ops Q Ok k fuel (listed.setIfInBounds i true) ⟨putE env o.dst x, T, n⟩)
    (hg : o.guard = none := by rfl) (ho : opsOk o n = true := by rfl) : ADk C ops Q Ok k (fuel + 1) listed ⟨env, T, n⟩ := akF i hi (fun T' h => (hj T' h).j) hT hc hr hf h hg ho
theorem akQ (i : Nat) (hi : ops.toList[i]? = some o) (hj : ∀ T', Ok T' → OpQ C o (evA env) T' x) (hT : Ok T) (hc : (topB ops k && (dcB ops listed && decide (i < k))) = true) (hr : (Region.ready .any ops listed).contains i = true) (hf : Region.free .any ops listed i = true) (h : ADk C ops Q Ok k fuel (listed.setIfInBounds i true) ⟨putE env o.dst x, T, n⟩)
    (hg : o.guard = none := by rfl) (ho : opsOk o n = true := by rfl) : ADk C ops Q Ok k (fuel + 1) listed ⟨env, T, n⟩ := akF i hi (fun T' h => (hj T' h).j) hT hc hr hf h hg ho
/-- The only operation that may come up; the slots stay as they must. -/
theorem akJ (i : Nat) (hi : ops.toList[i]? = some o) (hj : OpJ C o (evA env) T x T') (hr : Region.ready .any ops listed = [i]) (hT : Ok T') (h : ADk C ops Q Ok k fuel (listed.setIfInBounds i true) ⟨putE env o.dst x, T', n⟩) (hg : o.guard = none := by rfl) (ho : opsOk o n = true := by rfl) : ADk C ops Q Ok k (fuel + 1) listed ⟨env, T, n⟩ :=
  ⟨fun h0 => (by rw [hr] at h0; cases h0), fun j hj' => by
    rw [hr] at hj'
    obtain rfl : j = i := by simpa using hj'
    exact ⟨o, x, T', atL hi, hg, ho, hj, .inl hT, h⟩⟩
/-- One of the last operations. -/
theorem akL (i : Nat) (hi : ops.toList[i]? = some o) (hj : OpJ C o (evA env) T x T') (hr : Region.ready .any ops listed = [i]) (hk : k ≤ i) (h : ADk C ops Q Ok k fuel (listed.setIfInBounds i true) ⟨putE env o.dst x, T', n⟩) (hg : o.guard = none := by rfl) (ho : opsOk o n = true := by rfl) : ADk C ops Q Ok k (fuel + 1) listed ⟨env, T, n⟩ :=
  ⟨fun h0 => (by rw [hr] at h0; cases h0), fun j hj' => by
    rw [hr] at hj'
    obtain rfl : j = i := by simpa using hj'
    exact ⟨o, x, T', atL hi, hg, ho, hj, .inr hk, h⟩⟩
theorem akDone (hr : Region.ready .any ops listed = []) (h : Q .normal ⟨env, T, n⟩) : ADk C ops Q Ok k fuel listed ⟨env, T, n⟩ := by
  cases fuel with
  | zero => exact ⟨hr, h⟩
  | succ f => exact ⟨fun _ => h, fun i hi => by rw [hr] at hi; cases hi⟩
end
section
variable {C : Cx} {o : Oper} {ev : Operand → AV} {T : Sl} {t : TypeId} {p : Operand} {x : Int}
theorem op_negi (ho : o.op = .unOp .neg t p) (hp : ev p = .v (.int .i64 x)) (h : -9223372036854775807 ≤ x ∧ x ≤ 9223372036854775807) : OpP C o ev T (.v (.int .i64 (-x))) :=
  op_un ho hp (fun w => by
    have : IntKind.i64.wrap (-x) = -x := by exact IntWalk.i64_in _ (by omega)
    simp [Op.unary, Op.intArith, this]) rfl
end
end Go.Proofs.Ytjgbbffcjbmjmaa
