import Derived.Test.YtngfknoddphhaaaAb14
namespace Go.Proofs.Ytngfknoddphhaaa
open Go.RowKit
set_option linter.unusedSimpArgs false
set_option linter.unusedVariables false

/-- A contract that names its results. -/
def Fn (P : Program) (f : FuncId) (ins xs ys outs : List AV) : Prop := Spec P f ins xs fun a b => a = ys ∧ b = outs
def nref1 : AV → Bool
  | .sl _ _ _ _ => false
  | .ptr _ _ _ _ => false
  | .mp _ _ => false
  | .tup _ => false
  | _ => true
def nrefA : AV → Bool
  | .agg cs => cs.all nref1
  | x => nref1 x
theorem RefOK.nref {P : Program} {S S' : Nat → Prop} {w : World} {T T' : Sl} {vals vals' : List Value} {u : Value} {y : AV} (h : RefOK P S w T vals u y) (hn : nref1 y = true) (hS : ∀ k, S k → S' k) : RefOK P S' w T' vals' u y := by
  cases y with
  | sl => cases hn
  | ptr => cases hn
  | mp => cases hn
  | _ => exact RefOK.kept (T := T') (vals := vals') h (Kept.refl (fun _ => True) w) (fun _ _ _ => trivial) hS
theorem AggOK.nref {P : Program} {S S' : Nat → Prop} {w : World} {T T' : Sl} {vals vals' : List Value} {u : Value} {y : AV} (h : AggOK P S w T vals u y) (hn : nrefA y = true) (hS : ∀ k, S k → S' k) : AggOK P S' w T' vals' u y := by
  cases y with
  | any => trivial
  | agg cs =>
    obtain ⟨us, e, r⟩ := h
    simp only [nrefA, List.all_eq_true] at hn
    exact ⟨us, e, r.1, fun i u x hu hx => (r.2 i u x hu hx).nref (hn x (List.mem_of_getElem? hx)) hS⟩
  | _ => simp only [AggOK] at h ⊢; exact RefOK.nref h hn hS
/-- A datum whose reading does not lean on what may be read for good. -/
def Solid (P : Program) (x : AV) : Prop := ∀ (S S' : Nat → Prop) (w : World) (bs : List Nat) (u : Value), Rep P S w bs u x → Rep P S' w bs u x
theorem Solid.v {P : Program} (x : Value) : Solid P (.v x) := fun S S' w bs u h => by obtain ⟨rfl, rfl, h2⟩ := h.v_inv; exact .v h2
theorem Solid.any {P : Program} : Solid P .any := fun S S' w bs u h => by obtain ⟨rfl, h2⟩ := h.any_inv; exact .any h2
theorem Solid.sln {P : Program} (n : Nat) : Solid P (.sln n) := fun S S' w bs u h => by obtain ⟨rfl, A, c, rfl, h1, h2⟩ := h.sln_inv; exact .sln h1 h2
theorem Solid.own {P : Program} {e : TypeId} {es : List (List AV)} (hx : ∀ r ∈ es, ∀ c ∈ r, Solid P c) : Solid P (.own e es) := fun S S' w bs u h => by
  obtain ⟨us, sz, bss, rfl, hi, hsz, hown, hul, hbl, hc⟩ := h.own_inv
  refine .own hi hsz hown hul hbl fun i u x b h1 h2 h3 => ?_
  obtain ⟨r, hr1, hr2⟩ := List.mem_flatten.1 (List.mem_of_getElem? h2)
  exact hx r hr1 x hr2 _ _ _ _ _ (hc i u x b h1 h2 h3)
def SolidA (P : Program) : AV → Prop
  | .agg cs => ∀ c ∈ cs, Solid P c
  | x => Solid P x

section
variable {C : Cx} {T : Sl} {S : Nat → Prop} {vals : List Value} {bss : List (List Nat)} {w : World}
theorem Mem.push2 (hm : Mem C T S vals bss w) {x : AV} {v : Value} {bs : List Nat} (hr : Rep C.P S w bs v x) (hn : bs.Nodup) (hb : ∀ b ∈ bs, ¬ InL bss b ∧ ¬ S b ∧ (b ∈ C.own0 ∨ C.w0.heap.size ≤ b)) :
    Mem C (pushT T x) S (vals ++ [v]) (bss ++ [bs]) w ∧ Follows C.P S w T vals S w (pushT T x) (vals ++ [v]) := by
  have cases3 : ∀ (r : Nat) (b1 : List Nat), (bss ++ [bs])[r]? = some b1 → bss[r]? = some b1 ∨ (r = T.slots.length ∧ b1 = bs) := fun r b1 h => by
    rw [getElem?_snoc] at h
    split at h
    · exact .inl h
    · split at h
      · rename_i e; injection h with h; exact .inr ⟨by rw [e, hm.nb], h.symm⟩
      · cases h
  constructor
  · refine ⟨hm.kept, hm.s0, hm.sub, hm.lt, by simp [pushT, hm.nv], by simp [pushT, hm.nb], ?_, ?_, ?_, ?_, ?_, ?_, ?_, by simp [pushT]⟩
    · intro r k y u bs' h1 h2 h3
      have h1 : (T.slots ++ [(T.ep, x)])[r]? = some (k, y) := h1
      rw [getElem?_snoc] at h1 h2 h3
      rw [hm.nv] at h2
      rw [hm.nb] at h3
      by_cases h : r < T.slots.length
      · rw [if_pos h] at h1 h2 h3
        exact hm.rep r k y u bs' h1 h2 h3
      · rw [if_neg h] at h1 h2 h3
        by_cases h' : r = T.slots.length
        · rw [if_pos h'] at h1 h2 h3
          injection h1 with h1; injection h1 with _ h1
          injection h2 with h2; injection h3 with h3
          subst h1; subst h2; subst h3
          exact hr
        · rw [if_neg h'] at h1; cases h1
    · intro r b1 h
      rcases cases3 r b1 h with h | ⟨_, rfl⟩
      · exact hm.nodup r b1 h
      · exact hn
    · intro r r' b1 b2 hne h1 h2 b hb1 hb2
      rcases cases3 r b1 h1 with g1 | ⟨e1, f1⟩ <;> rcases cases3 r' b2 h2 with g2 | ⟨e2, f2⟩
      · exact hm.disj r r' b1 b2 hne g1 g2 b hb1 hb2
      · exact (hb b (f2 ▸ hb2)).1 ⟨r, b1, g1, hb1⟩
      · exact (hb b (f1 ▸ hb1)).1 ⟨r', b2, g2, hb2⟩
      · omega
    · intro r b1 h b hb'
      rcases cases3 r b1 h with h | ⟨_, rfl⟩
      · exact hm.apart r b1 h b hb'
      · exact (hb b hb').2.1
    · intro r b1 h b hb'
      rcases cases3 r b1 h with h | ⟨_, rfl⟩
      · exact hm.mine r b1 h b hb'
      · exact (hb b hb').2.2
    · intro r y hlt h
      have h : (T.slots ++ [(T.ep, x)])[r]? = some (0, y) := h
      rw [getElem?_snoc] at h
      rw [getElem?_snoc, hm.nv]
      split at h
      · rename_i h'; rw [if_pos h']; exact hm.root r y hlt h
      · split at h
        · injection h with h
          injection h with h _
          have := hm.pos; omega
        · cases h
    · intro r k y h
      have h : (T.slots ++ [(T.ep, x)])[r]? = some (k, y) := h
      rw [getElem?_snoc] at h
      show k < T.ep + 1
      split at h
      · have := hm.ver r k y h; omega
      · split at h
        · injection h with h; injection h with h _; omega
        · cases h
  · intro u y h
    have hold : ∀ (r k : Nat) (x' : AV), k < T.ep → (pushT T x).slots[r]? = some (k, x') → T.slots[r]? = some (k, x') ∧ (vals ++ [v])[r]? = vals[r]? := fun r k x' hk' h => by
      have h : (T.slots ++ [(T.ep, x)])[r]? = some (k, x') := h
      rw [getElem?_snoc] at h
      rw [getElem?_snoc, hm.nv]
      split at h
      · rename_i hl; rw [if_pos hl]; exact ⟨h, rfl⟩
      · split at h
        · injection h with h; injection h with h _; omega
        · cases h
    have hep : ∀ k, k < T.ep → k < (pushT T x).ep := fun k h => by simp [pushT]; omega
    cases y with
    | sl r k off len =>
      refine ⟨hep _ h.1, h.2.1, fun e es v' sz h1 h2 h3 => ?_⟩
      obtain ⟨h4, h5⟩ := hold r k _ h.1 h1
      rw [h5] at h2
      exact h.2.2 e es v' sz h4 h2 h3
    | ptr r k i j =>
      refine ⟨hep _ h.1, h.2.1, fun e es v' sz h1 h2 h3 => ?_⟩
      obtain ⟨h4, h5⟩ := hold r k _ h.1 h1
      rw [h5] at h2
      exact h.2.2 e es v' sz h4 h2 h3
    | mp r k =>
      refine ⟨hep _ h.1, h.2.1, fun b ks v' h1 h2 => ?_⟩
      obtain ⟨h4, h5⟩ := hold r k _ h.1 h1
      rw [h5] at h2
      exact h.2.2 b ks v' h4 h2
    | _ => exact h
/-- More may be read for good. -/
theorem Mem.more {S' : Nat → Prop} (hm : Mem C T S vals bss w) (h1 : ∀ k, S k → S' k) (h2 : ∀ k, S' k → S k ∨ ((C.S0 k ∨ k ∈ C.own0 ∨ C.w0.heap.size ≤ k) ∧ k < w.heap.size ∧ ¬ InL bss k)) : Mem C T S' vals bss w :=
  ⟨hm.kept, fun k h => h1 k (hm.s0 k h), fun k h => (h2 k h).elim (hm.sub k) (·.1), fun k h => (h2 k h).elim (hm.lt k) (·.2.1), hm.nv, hm.nb, fun r k x v bs q1 q2 q3 => (hm.rep r k x v bs q1 q2 q3).mono fun k _ => h1 k, hm.nodup, hm.disj,
    fun r bs q b hb hs => (h2 b hs).elim (hm.apart r bs q b hb) fun h => h.2.2 ⟨r, bs, q, hb⟩, hm.mine, hm.root, hm.ver, hm.pos⟩
/-- What the caller makes of the results. -/
def unp : List AV → Sl → List AV × Sl
  | [], T => ([], T)
  | .own e es :: ys, T => let r := unp ys (pushT T (.own e es)); (.sl T.slots.length T.ep 0 es.length :: r.1, r.2)
  | y :: ys, T => let r := unp ys T; (y :: r.1, r.2)
def packR : List AV → AV
  | [z] => z
  | zs => .tup zs
theorem unp_ok : ∀ (ys : List AV) (us : List Value) (bsr : List (List Nat)) (T : Sl) (vals : List Value) (bss : List (List Nat)), Mem C T S vals bss w → us.length = ys.length → bsr.length = ys.length →
    (∀ (i : Nat) (u : Value) (y : AV) (bs : List Nat), us[i]? = some u → ys[i]? = some y → bsr[i]? = some bs → Rep C.P S w bs u y ∨ (bs = [] ∧ nrefA y = true ∧ ∃ T0 vals0, AggOK C.P S w T0 vals0 u y)) →
    Own2 bsr → (∀ b, InL bsr b → ¬ InL bss b ∧ ¬ S b ∧ (b ∈ C.own0 ∨ C.w0.heap.size ≤ b)) →
    ∃ vals' bss', Mem C (unp ys T).2 S vals' bss' w ∧ Follows C.P S w T vals S w (unp ys T).2 vals' ∧ RL (AggOK C.P S w (unp ys T).2 vals') us (unp ys T).1
  | [], us, bsr, T, vals, bss, hm, h1, h2, _, _, _ => by
    have : us = [] := List.eq_nil_of_length_eq_zero h1
    subst this
    exact ⟨vals, bss, hm, Follows.refl, RL.nil⟩
  | y :: ys, [], _, _, _, _, _, h1, _, _, _, _ => by simp at h1
  | y :: ys, u :: us, [], _, _, _, _, _, h2, _, _, _ => by simp at h2
  | y :: ys, u :: us, bs :: bsr, T, vals, bss, hm, h1, h2, h3, h4, h5 => by
    have hd := h3 0 u y bs rfl rfl rfl
    have htl : ∀ (i : Nat) (u : Value) (y : AV) (b : List Nat), us[i]? = some u → ys[i]? = some y → bsr[i]? = some b → Rep C.P S w b u y ∨ (b = [] ∧ nrefA y = true ∧ ∃ T0 vals0, AggOK C.P S w T0 vals0 u y) := fun i u y b q1 q2 q3 => h3 (i + 1) u y b (by simpa using q1) (by simpa using q2) (by simpa using q3)
    have hown : Own2 bsr := ⟨fun r b h => h4.nodup (r + 1) b (by simpa using h), fun r r' b b' hne q1 q2 => h4.disj (r + 1) (r' + 1) b b' (by omega) (by simpa using q1) (by simpa using q2)⟩
    have hin : ∀ b, InL bsr b → InL (bs :: bsr) b := fun b ⟨r, b1, q1, q2⟩ => ⟨r + 1, b1, by simpa using q1, q2⟩
    have plain : (∀ e es, y ≠ .own e es) → AggOK C.P S w T vals u y ∧ bs = bs → ∃ vals' bss', Mem C (unp (y :: ys) T).2 S vals' bss' w ∧ Follows C.P S w T vals S w (unp (y :: ys) T).2 vals' ∧ RL (AggOK C.P S w (unp (y :: ys) T).2 vals') (u :: us) (unp (y :: ys) T).1 := by
      intro hne ⟨ha, _⟩
      obtain ⟨vals', bss', g1, g2, g3⟩ := unp_ok ys us bsr T vals bss hm (by simpa using h1) (by simpa using h2) htl hown fun b hb => h5 b (hin b hb)
      have e : unp (y :: ys) T = (y :: (unp ys T).1, (unp ys T).2) := by
        cases y <;> first | rfl | (exact absurd rfl (hne _ _))
      rw [e]
      exact ⟨vals', bss', g1, g2, RL.cons (AggOK.follows g2 ha) g3⟩
    by_cases ho : ∃ e es, y = .own e es
    · obtain ⟨e, es, rfl⟩ := ho
      have hrep : ∃ b0, Rep C.P S w b0 u (.own e es) ∧ b0.Nodup ∧ (∀ b ∈ b0, b ∈ bs) := by
        rcases hd with h | ⟨rfl, _, T0, vals0, h⟩
        · exact ⟨bs, h, h4.nodup 0 bs rfl, fun b h => h⟩
        · exact ⟨[], h, by simp, by simp⟩
      obtain ⟨b0, hr, hnd, hsub⟩ := hrep
      obtain ⟨hm', hf⟩ := hm.push2 hr hnd fun b hb => h5 b ⟨0, bs, rfl, hsub b hb⟩
      obtain ⟨vals', bss', g1, g2, g3⟩ := unp_ok ys us bsr (pushT T (.own e es)) (vals ++ [u]) (bss ++ [b0]) hm' (by simpa using h1) (by simpa using h2) htl hown fun b hb => by
        obtain ⟨q1, q2, q3⟩ := h5 b (hin b hb)
        refine ⟨fun ⟨r, b1, p1, p2⟩ => ?_, q2, q3⟩
        rw [getElem?_snoc] at p1
        split at p1
        · exact q1 ⟨r, b1, p1, p2⟩
        · split at p1
          · injection p1 with p1
            subst p1
            obtain ⟨r', b2, p3, p4⟩ := hb
            exact h4.disj 0 (r' + 1) bs b2 (by omega) rfl (by simpa using p3) b (hsub b p2) p4
          · cases p1
      refine ⟨vals', bss', g1, fun u x h => g2 u x (hf u x h), RL.cons ?_ g3⟩
      have hp := push_sl (C := C) (S := S) (T := T) hm.nv hr
      exact AggOK.follows g2 (show AggOK C.P S w _ _ u (.sl T.slots.length T.ep 0 es.length) from hp)
    · refine plain (fun e es h => ho ⟨e, es, h⟩) ⟨?_, rfl⟩
      rcases hd with h | ⟨rfl, hn, T0, vals0, h⟩
      · cases h with
        | own => exact absurd ⟨_, _, rfl⟩ ho
        | any h => trivial
        | v h => exact Rep.v h
        | sln a b => exact Rep.sln a b
        | ro a b c d e f => exact Rep.ro a b c d e f
        | rof a b c d e => exact Rep.rof a b c d e
        | rop a b c => exact Rep.rop a b c
      · exact h.nref hn fun _ h => h
end
end Go.Proofs.Ytngfknoddphhaaa
