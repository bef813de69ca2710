import Derived.Test.YtngfknoddphhaaaAb21
namespace Go.Proofs.Ytngfknoddphhaaa
open Go.RowKit
set_option linter.unusedSimpArgs false
set_option linter.unusedVariables false

/-! ### Regions that draw their order: what only reads comes first -/
theorem OpJ.congr {C : Cx} {o : Oper} {ev ev' : Operand → AV} {T T' : Sl} {x : AV} (h : OpJ C o ev T x T') (he : ∀ y ∈ o.op.operands, ev' y = ev y) : OpJ C o ev' T x T' :=
  fun a w S vals bss hm ho => h a w S vals bss hm fun y hy => by rw [← he y hy]; exact ho y hy
theorem evA_put {env : Nat → AV} {dst : Option Tmp} {x : AV} {o : Oper} {ops : Array Oper} (h : ∀ d, dst = some d → d ∉ o.looksAt ops) : ∀ y ∈ o.op.operands, evA (putE env dst x) y = evA env y := fun y hy => by
  cases y with
  | tmp t =>
    cases dst with
    | none => rfl
    | some d =>
      show upd env d x t = env t
      unfold upd
      rw [if_neg]
      intro e
      subst e
      exact h _ rfl (List.mem_append_left _ (List.mem_filterMap.2 ⟨.tmp t, by simpa using hy, rfl⟩))
  | _ => rfl
theorem putE_comm {env : Nat → AV} {d d' : Option Tmp} {x y : AV} (h : ∀ t, d = some t → d' ≠ some t) : putE (putE env d x) d' y = putE (putE env d' y) d x := by
  cases d with
  | none => rfl
  | some t =>
    cases d' with
    | none => rfl
    | some t' =>
      have hne : t ≠ t' := fun e => h t rfl (by rw [e])
      funext q
      show upd (upd env t x) t' y q = upd (upd env t' y) t x q
      unfold upd
      by_cases h1 : q = t'
      · rw [if_pos h1, if_neg (fun e => hne (e.symm.trans h1)), if_pos h1]
      · rw [if_neg h1, if_neg h1]
section
variable {C : Cx} {ops : Array Oper} {Q : Exit → Sta → Prop} {Ok : Sl → Prop}
def AD (C : Cx) (ops : Array Oper) (Q : Exit → Sta → Prop) (Ok : Sl → Prop) : Nat → Array Bool → Sta → Prop
  | 0, listed, σ => Region.ready .any ops listed = [] ∧ Q .normal σ
  | f + 1, listed, σ => (Region.ready .any ops listed = [] → Q .normal σ) ∧ ∀ i ∈ Region.ready .any ops listed, ∃ o x T', ops[i]? = some o ∧ o.guard = none ∧ opsOk o σ.n = true ∧ OpJ C o (evA σ.env) σ.T x T' ∧ Ok T' ∧ AD C ops Q Ok f (listed.setIfInBounds i true) ⟨putE σ.env o.dst x, T', σ.n⟩
theorem AD.any : ∀ (f : Nat) (listed : Array Bool) (σ : Sta), AD C ops Q Ok f listed σ → AWAny C ops Q f listed σ
  | 0, _, _, h => AWAny.done h.1 h.2
  | f + 1, listed, σ, h => by
    by_cases hr : Region.ready .any ops listed = []
    · exact AWAny.done hr (h.1 hr)
    · refine AWAny.all rfl hr fun i hi => ?_
      obtain ⟨o, x, T', h1, h2, h3, h4, _, h6⟩ := h.2 i hi
      exact AWOp.op h1 h2 h3 h4 (AD.any f _ _ h6)
theorem AD.first {i : Nat} {oi : Oper} {x : AV} {n : Nat} {ev0 : Operand → AV} (hi : ops[i]? = some oi) (hg : oi.guard = none) (hok : opsOk oi n = true) (hj : ∀ T', Ok T' → OpJ C oi ev0 T' x T') :
    ∀ (f : Nat) (listed : Array Bool) (env : Nat → AV) (T : Sl),
      (∀ j oj, ops[j]? = some oj → j ≠ i → listed.getD j true = false → (∀ e ∈ oj.after, Region.binds .any e = true → e.on ≠ i) → oi.apart ops oj = true) →
      i ∈ Region.ready .any ops listed → (∀ y ∈ oi.op.operands, evA env y = ev0 y) → Ok T →
      AD C ops Q Ok f (listed.setIfInBounds i true) ⟨putE env oi.dst x, T, n⟩ → AD C ops Q Ok (f + 1) listed ⟨env, T, n⟩ := by
  intro f
  induction f with
  | zero =>
    intro listed env T _ hr hev hT H
    refine ⟨fun h => (by rw [h] at hr; cases hr), fun j hjr => ?_⟩
    by_cases hji : j = i
    · subst hji; exact ⟨oi, x, T, hi, hg, hok, (hj T hT).congr hev, hT, H⟩
    · have := ready_mono hjr hji
      rw [H.1] at this
      cases this
  | succ f ih =>
    intro listed env T hfree hr hev hT H
    have hun := (mem_ready.1 hr).1
    refine ⟨fun h => (by rw [h] at hr; cases hr), fun j hjr => ?_⟩
    by_cases hji : j = i
    · subst hji; exact ⟨oi, x, T, hi, hg, hok, (hj T hT).congr hev, hT, H⟩
    · obtain ⟨oj, y, T', h1, h2, h3, h4, h5, h6⟩ := H.2 j (ready_mono hjr hji)
      obtain ⟨hjun, oj', hoj, hall⟩ := mem_ready.1 hjr
      have : oj' = oj := Option.some.inj (hoj.symm.trans h1)
      subst this
      have hnot : ∀ e ∈ oj'.after, Region.binds .any e = true → e.on ≠ i := fun e he hb heq => by
        have h1 := hall e he hb
        rw [heq, getD_both hun] at h1
        cases h1
      obtain ⟨a1, a2, a3⟩ := Oper.apart_spec (hfree j oj' hoj hji hjun hnot)
      have hfree' : ∀ k ok, ops[k]? = some ok → k ≠ i → (listed.setIfInBounds j true).getD k true = false → (∀ e ∈ ok.after, Region.binds .any e = true → e.on ≠ i) → oi.apart ops ok = true := fun k ok hk hki hun hno => by
        refine hfree k ok hk hki ?_ hno
        by_cases hjk : j = k
        · subst hjk; exact hjun
        · rw [getD_set_ne true hjk] at hun; exact hun
      refine ⟨oj', y, T', h1, h2, h3, h4.congr fun q hq => (evA_put a1 q hq).symm, h5, ?_⟩
      refine ih _ _ _ hfree' (ready_mono hr (Ne.symm hji)) (fun q hq => (evA_put a3 q hq).trans (hev q hq)) h5 ?_
      rw [Array.setIfInBounds_comm _ _ hji]
      rw [putE_comm (fun t ht ht' => a2 t ht ht')] at h6
      exact h6
/-- Slots that stay as they are. -/
def FixL : List (Nat × Nat × AV) → Sl → Prop
  | [], _ => True
  | p :: l, T => T.slots[p.1]? = some p.2 ∧ FixL l T
theorem AW.ad {σ : Sta} {i n : Nat} {l : List Oper} (fx : List (Nat × Nat × AV)) (hm : C.P.follows .mixedOrders = true) (hn : l.toArray.size = n) (h : AD C l.toArray Q (FixL fx) n (Array.replicate n false) σ) : AW C (.region i l.toArray true) Q σ := by
  subst hn
  exact AW.region_any hm (AD.any _ _ _ h)
end
section
variable {C : Cx} {Q : Exit → Sta → Prop} {ops : Array Oper} {fx : List (Nat × Nat × AV)} {fuel : Nat} {listed : Array Bool} {o : Oper} {env : Nat → AV} {T T' : Sl} {n : Nat} {x : AV}
theorem adF (i : Nat) (hi : ops[i]? = some o) (hj : ∀ T', FixL fx T' → OpJ C o (evA env) T' x T') (hT : FixL fx T) (hr : (Region.ready .any ops listed).contains i = true) (hf : Region.free .any ops listed i = true) (h : AD C ops Q (FixL fx) fuel (listed.setIfInBounds i true) ⟨putE env o.dst x, T, n⟩)
    (hg : o.guard = none := by rfl) (ho : opsOk o n = true := by rfl) : AD C ops Q (FixL fx) (fuel + 1) listed ⟨env, T, n⟩ :=
  AD.first hi hg ho hj fuel listed env T (Region.free_spec hi hf) (by simpa using hr) (fun _ _ => rfl) hT h
theorem adP (i : Nat) (hi : ops[i]? = some o) (hj : ∀ T', FixL fx T' → OpP C o (evA env) T' x) (hT : FixL fx T) (hr : (Region.ready .any ops listed).contains i = true) (hf : Region.free .any ops listed i = true) (h : AD C ops Q (FixL fx) fuel (listed.setIfInBounds i true) ⟨putE env o.dst x, T, n⟩)
    (hg : o.guard = none := by rfl) (ho : opsOk o n = true := by rfl) : AD C ops Q (FixL fx) (fuel + 1) listed ⟨env, T, n⟩ := adF i hi (fun T' h => (hj T' h).j) hT hr hf h hg ho
theorem adR (i : Nat) (hi : ops[i]? = some o) (hj : ∀ T', FixL fx T' → OpR C o (evA env) T' x) (hT : FixL fx T) (hr : (Region.ready .any ops listed).contains i = true) (hf : Region.free .any ops listed i = true) (h : AD C ops Q (FixL fx) fuel (listed.setIfInBounds i true) ⟨putE env o.dst x, T, n⟩)
    (hg : o.guard = none := by rfl) (ho : opsOk o n = true := by rfl) : AD C ops Q (FixL fx) (fuel + 1) listed ⟨env, T, n⟩ := adF i hi (fun T' h => (hj T' h).j) hT hr hf h hg ho
theorem adQ (i : Nat) (hi : ops[i]? = some o) (hj : ∀ T', FixL fx T' → OpQ C o (evA env) T' x) (hT : FixL fx T) (hr : (Region.ready .any ops listed).contains i = true) (hf : Region.free .any ops listed i = true) (h : AD C ops Q (FixL fx) fuel (listed.setIfInBounds i true) ⟨putE env o.dst x, T, n⟩)
    (hg : o.guard = none := by rfl) (ho : opsOk o n = true := by rfl) : AD C ops Q (FixL fx) (fuel + 1) listed ⟨env, T, n⟩ := adF i hi (fun T' h => (hj T' h).j) hT hr hf h hg ho
/-- The only operation that may come up. -/
theorem adJ (i : Nat) (hi : ops[i]? = some o) (hj : OpJ C o (evA env) T x T') (hr : Region.ready .any ops listed = [i]) (hT : FixL fx T') (h : AD C ops Q (FixL fx) fuel (listed.setIfInBounds i true) ⟨putE env o.dst x, T', n⟩) (hg : o.guard = none := by rfl) (ho : opsOk o n = true := by rfl) : AD C ops Q (FixL fx) (fuel + 1) listed ⟨env, T, n⟩ :=
  ⟨fun h0 => (by rw [hr] at h0; cases h0), fun j hj' => by
    rw [hr] at hj'
    obtain rfl : j = i := by simpa using hj'
    exact ⟨o, x, T', hi, hg, ho, hj, hT, h⟩⟩
theorem adDone (hr : Region.ready .any ops listed = []) (h : Q .normal ⟨env, T, n⟩) : AD C ops Q (FixL fx) fuel listed ⟨env, T, n⟩ := by
  cases fuel with
  | zero => exact ⟨hr, h⟩
  | succ f => exact ⟨fun _ => h, fun i hi => by rw [hr] at hi; cases hi⟩
end
end Go.Proofs.Ytngfknoddphhaaa
