import Derived.Test.YtjgbbffcjbmjmaaAbF
namespace Go.Proofs.Ytjgbbffcjbmjmaa
open Go.RowKit
set_option linter.unusedSimpArgs false
set_option linter.unusedVariables false

/-! ### Calls that lend two slots -/
section
variable {C : Cx} {T : Sl} {S S2 : Nat → Prop} {vals : List Value} {bss : List (List Nat)} {w w' : World}
theorem Mem.setMany {T' : Sl} {bss' : List (List Nat)} (hm : Mem C T S vals bss w) (D FR : Nat → Prop) (hFR : ∀ q, FR q ↔ ∃ r bs, D r ∧ bss[r]? = some bs ∧ q ∈ bs)
    (hk : Kept (fun q => ¬ FR q) w w') (h1S : ∀ q, S q → S2 q) (h2S : ∀ q, S2 q → S q ∨ ((w.heap.size ≤ q ∨ FR q) ∧ q < w'.heap.size ∧ ∀ r bs', D r → bss'[r]? = some bs' → q ∉ bs'))
    (hl : T'.slots.length = T.slots.length) (hbl : bss'.length = bss.length) (hep : T'.ep = T.ep)
    (hT : ∀ r k x, T'.slots[r]? = some (k, x) → (¬ D r ∧ T.slots[r]? = some (k, x)) ∨ (D r ∧ ∃ e es es', T.slots[r]? = some (k, .own e es) ∧ x = .own e es' ∧ es.length = es'.length))
    (hb : ∀ r bs', bss'[r]? = some bs' → (¬ D r ∧ bss[r]? = some bs') ∨ (D r ∧ bs'.Nodup ∧ ∀ q ∈ bs', FR q ∨ w.heap.size ≤ q))
    (hrep : ∀ r k x v bs', D r → T'.slots[r]? = some (k, x) → vals[r]? = some v → bss'[r]? = some bs' → Rep C.P S2 w' bs' v x)
    (hdj : ∀ r r' bs bs', D r → D r' → r ≠ r' → bss'[r]? = some bs → bss'[r']? = some bs' → ∀ q ∈ bs, q ∉ bs') :
    Mem C T' S2 vals bss' w' ∧ Follows C.P S w T vals S2 w' T' vals := by
  have f1 : ∀ q, FR q → q < w.heap.size := fun q h => by obtain ⟨r, bs, _, h1, h2⟩ := (hFR q).1 h; exact hm.blt h1 q h2
  have f2 : ∀ q, FR q → ¬ S q := fun q h => by obtain ⟨r, bs, _, h1, h2⟩ := (hFR q).1 h; exact hm.apart r bs h1 q h2
  have f3 : ∀ q, FR q → q ∈ C.own0 ∨ C.w0.heap.size ≤ q := fun q h => by obtain ⟨r, bs, _, h1, h2⟩ := (hFR q).1 h; exact hm.mine r bs h1 q h2
  have f4 : ∀ r bs q, ¬ D r → bss[r]? = some bs → q ∈ bs → ¬ FR q := fun r bs q hD h1 h2 h => by
    obtain ⟨r', bs', hD', h3, h4⟩ := (hFR q).1 h
    exact hm.disj r' r bs' bs (fun e => hD (e ▸ hD')) h3 h1 q h4 h2
  have hkS : ∀ q, q < w.heap.size → S q → ¬ FR q := fun q _ hq h => f2 q h hq
  have hsz := hm.kept.size
  constructor
  · refine ⟨hm.kept.then hk fun q hq hq' hqb => ?_, fun q h => h1S q (hm.s0 q h), fun q h => ?_, fun q h => ?_, by rw [hl]; exact hm.nv, by rw [hbl, hl]; exact hm.nb, ?_, ?_, ?_, ?_, ?_, ?_, ?_, by rw [hep]; exact hm.pos⟩
    · rcases f3 q hqb with h | h
      · exact hq' h
      · omega
    · rcases h2S q h with h | ⟨h | h, _⟩
      · exact hm.sub q h
      · exact .inr (.inr (by omega))
      · exact .inr (f3 q h)
    · rcases h2S q h with h | ⟨_, h, _⟩
      · exact Nat.lt_of_lt_of_le (hm.lt q h) hk.size
      · exact h
    · intro q kq y u b1 h1 h2 h3
      rcases hT q kq y h1 with ⟨hD, h4⟩ | ⟨hD, _⟩
      · rcases hb q b1 h3 with ⟨_, h5⟩ | ⟨hD', _⟩
        · exact ((hm.rep q kq y u b1 h4 h2 h5).kept hk hkS fun b hb' => f4 q b1 b hD h5 hb').mono fun q _ => h1S q
        · exact absurd hD' hD
      · exact hrep q kq y u b1 hD h1 h2 h3
    · intro q b1 h3
      rcases hb q b1 h3 with ⟨_, h⟩ | ⟨_, h, _⟩
      · exact hm.nodup q b1 h
      · exact h
    · intro q q' b1 b2 hne h1 h2 b hb1 hb2
      rcases hb q b1 h1 with ⟨hD, h⟩ | ⟨hD, _, h⟩
      · rcases hb q' b2 h2 with ⟨hD', h'⟩ | ⟨hD', _, h'⟩
        · exact hm.disj q q' b1 b2 hne h h' b hb1 hb2
        · rcases h' b hb2 with h' | h'
          · exact f4 q b1 b hD h hb1 h'
          · have := hm.blt h b hb1; omega
      · rcases hb q' b2 h2 with ⟨hD', h'⟩ | ⟨hD', _, _⟩
        · rcases h b hb1 with h | h
          · exact f4 q' b2 b hD' h' hb2 h
          · have := hm.blt h' b hb2; omega
        · exact hdj q q' b1 b2 hD hD' hne h1 h2 b hb1 hb2
    · intro q b1 h1 b hb1 hSb
      rcases hb q b1 h1 with ⟨hD, h⟩ | ⟨hD, _, h⟩
      · rcases h2S b hSb with hS | ⟨h' | h', _⟩
        · exact hm.apart q b1 h b hb1 hS
        · have := hm.blt h b hb1; omega
        · exact f4 q b1 b hD h hb1 h'
      · rcases h2S b hSb with hS | ⟨_, _, h'⟩
        · rcases h b hb1 with h | h
          · exact f2 b h hS
          · have := hm.lt b hS; omega
        · exact h' q b1 hD h1 hb1
    · intro q b1 h1 b hb1
      rcases hb q b1 h1 with ⟨hD, h⟩ | ⟨hD, _, h⟩
      · exact hm.mine q b1 h b hb1
      · rcases h b hb1 with h | h
        · exact f3 b h
        · exact .inr (by omega)
    · intro q y hlt h
      rcases hT q 0 y h with ⟨hD, h⟩ | ⟨hD, e, es, es', h, _⟩
      · exact hm.root q y hlt h
      · exact hm.root q _ hlt h
    · intro q kq y h
      rw [hep]
      rcases hT q kq y h with ⟨hD, h⟩ | ⟨hD, e, es, es', h, _⟩
      · exact hm.ver q kq y h
      · exact hm.ver q kq _ h
  · intro u y h
    cases y with
    | sl q kq off len =>
      refine ⟨by rw [hep]; exact h.1, h.2.1, fun e es v2 sz h1 h2 h3 => ?_⟩
      rcases hT q kq _ h1 with ⟨_, h4⟩ | ⟨_, e0, es0, es1, h4, h5, h6⟩
      · exact h.2.2 e es v2 sz h4 h2 h3
      · injection h5 with h7 h8
        subst h7; subst h8
        rw [← h6]
        exact h.2.2 e es0 v2 sz h4 h2 h3
    | ptr q kq i j =>
      refine ⟨by rw [hep]; exact h.1, h.2.1, fun e es v2 sz h1 h2 h3 => ?_⟩
      rcases hT q kq _ h1 with ⟨_, h4⟩ | ⟨_, e0, es0, es1, h4, h5, h6⟩
      · exact h.2.2 e es v2 sz h4 h2 h3
      · injection h5 with h7 h8
        subst h7; subst h8
        rw [← h6]
        exact h.2.2 e es0 v2 sz h4 h2 h3
    | mp q kq =>
      refine ⟨by rw [hep]; exact h.1, h.2.1, fun b ks v2 h1 h2 => ?_⟩
      rcases hT q kq _ h1 with ⟨_, h4⟩ | ⟨_, e0, es0, es1, h4, h5, h6⟩
      · exact h.2.2 b ks v2 h4 h2
      · cases h5
    | nm => exact h
    | byt => exact h
    | om => exact h
    | _ => exact RefOK.kept (T := T') (vals := vals) h hk hkS h1S
/-- How a call that lends the slots r1 and r2 sees its arguments. -/
inductive View2 (T : Sl) (r1 k1 r2 k2 : Nat) : AV → AV → Prop
  | base {y x} (h : View T false y x) : View2 T r1 k1 r2 k2 y x
  | ptr {i j} : View2 T r1 k1 r2 k2 (.ptr r1 k1 i j) (.ptr 0 0 i j)
  | sl {off len} : View2 T r1 k1 r2 k2 (.sl r2 k2 off len) (.sl 1 0 off len)
variable {o : Oper} {ev : Operand → AV}
theorem view2_ok (hm : Mem C T S vals bss w) {r1 k1 r2 k2 : Nat} {x0 y0 : AV} {v1 v2 : Value} (hs1 : T.slots[r1]? = some (k1, x0)) (hv1 : vals[r1]? = some v1) (hs2 : T.slots[r2]? = some (k2, y0)) (hv2 : vals[r2]? = some v2) {y x : AV} (h : View2 T r1 k1 r2 k2 y x) {u : Value} (hu : TmpOK C.P S w T vals u y) : AggOK C.P S w (insT [x0, y0]) [v1, v2] u x := by
  cases h with
  | base h =>
    have h1 := view_ok hm h hu
    have h2 : AggOK C.P S w (insT []) [] u x := by
      have hl : ∀ k, lent false S bss k → S k := fun k h => h.resolve_right (by simp)
      cases x with
      | any => trivial
      | agg cs => obtain ⟨us, e, rl⟩ := h1; exact ⟨us, e, rl.mono fun u x h => RefOK.kept h (Kept.refl (fun _ => True) w) (fun _ _ _ => trivial) hl⟩
      | _ => simp only [AggOK] at h1 ⊢; exact RefOK.kept h1 (Kept.refl (fun _ => True) w) (fun _ _ _ => trivial) hl
    have hn : nrefA x = true := by
      cases h with
      | same h => exact h
      | nil => rfl
      | rof => rfl
    exact h2.nref hn fun _ h => h
  | ptr =>
    refine ⟨by simp [insT], hu.2.1, fun e es v sz h1 h2 h3 => ?_⟩
    simp [insT] at h1 h2
    subst h2
    exact hu.2.2 e es v1 sz (by rw [hs1, h1]) hv1 h3
  | sl =>
    refine ⟨by simp [insT], hu.2.1, fun e es v sz h1 h2 h3 => ?_⟩
    simp [insT] at h1 h2
    subst h2
    exact hu.2.2 e es v2 sz (by rw [hs2, h1]) hv2 h3
theorem op_call2 {f : FuncId} {args : Array Operand} {ts : Array TypeId} {r1 k1 r2 k2 : Nat} {e1 e2 : TypeId} {xs1 xs1' ys1 ys1' : List (List AV)} {xs ys : List AV} (ho : o.op = .call { callee := .value (.func f), args := args, argTypes := ts }) (hf : Enters C.P f) (hsp : Fn C.P f [.own e1 xs1, .own e2 ys1] xs ys [.own e1 xs1', .own e2 ys1'])
    (hs1 : T.slots[r1]? = some (k1, .own e1 xs1)) (hs2 : T.slots[r2]? = some (k2, .own e2 ys1)) (hne : r1 ≠ r2) (hv : RL (View2 T r1 k1 r2 k2) (args.toList.map ev) xs) (hl1 : xs1.length = xs1'.length) (hl2 : ys1.length = ys1'.length) (hn : ys.all nrefA = true)
    {x : AV} {T' : Sl} (hx : packR (unp ys ⟨(T.slots.set r1 (k1, .own e1 xs1')).set r2 (k2, .own e2 ys1'), T.ep⟩).1 = x) (hT : (unp ys ⟨(T.slots.set r1 (k1, .own e1 xs1')).set r2 (k2, .own e2 ys1'), T.ep⟩).2 = T') : OpJ C o ev T x T' := by
  intro a w S vals bss hm h K hK Q
  have hr1 : r1 < T.slots.length := (List.getElem?_eq_some_iff.1 hs1).1
  have hr2 : r2 < T.slots.length := (List.getElem?_eq_some_iff.1 hs2).1
  have hargs : ∀ y ∈ args, TmpOK C.P S w T vals (a.eval y) (ev y) := fun y hy => h y (by simp [ho, Op.operands, Call.operands]; exact .inr hy)
  obtain ⟨v1, b1, hv1, hb1, hrep1⟩ := hm.slot hs1
  obtain ⟨v2, b2, hv2, hb2, hrep2⟩ := hm.slot hs2
  have hcame : Came C.P [.own e1 xs1, .own e2 ys1] xs w S [v1, v2] [b1, b2] (args.toList.map a.eval) := by
    refine ⟨hm.lt, rfl, rfl, fun q x u b h1 h2 h3 => ?_, ⟨fun q b h1 => ?_, fun q q' b b' hne' h1 h2 => ?_⟩, fun b ⟨q, c1, h1, h2⟩ => ?_, by have := hv.1; simpa using this, fun i u x h1 h2 => ?_⟩
    · rcases q with _ | _ | q
      · simp at h1 h2 h3; subst h1; subst h2; subst h3; exact hrep1
      · simp at h1 h2 h3; subst h1; subst h2; subst h3; exact hrep2
      · simp at h1
    · rcases q with _ | _ | q
      · simp at h1; subst h1; exact hm.nodup r1 _ hb1
      · simp at h1; subst h1; exact hm.nodup r2 _ hb2
      · simp at h1
    · rcases q with _ | _ | q <;> rcases q' with _ | _ | q' <;> simp at h1 h2 <;> first | exact absurd rfl hne' | skip
      · subst h1; subst h2; exact hm.disj r1 r2 _ _ hne hb1 hb2
      · subst h1; subst h2; exact hm.disj r2 r1 _ _ hne.symm hb2 hb1
    · rcases q with _ | _ | q
      · simp at h1; subst h1; exact hm.apart r1 _ hb1 b h2
      · simp at h1; subst h1; exact hm.apart r2 _ hb2 b h2
      · simp at h1
    · rw [List.getElem?_map] at h1
      cases hq : args.toList[i]? with
      | none => rw [hq] at h1; cases h1
      | some y =>
        rw [hq] at h1
        simp only [Option.map_some, Option.some.injEq] at h1
        subst h1
        exact view2_ok hm hs1 hv1 hs2 hv2 (hv.2 i (ev y) x (by rw [List.getElem?_map, hq]; rfl) h2) (hargs y (Array.mem_toList_iff.1 (List.mem_of_getElem? hq)))
  have hc := hsp w S [v1, v2] [b1, b2] _ hcame
  have hrun : (execOp a.eval o).run C.P w = .ok (.enter f (args.toList.map a.eval).toArray) w := by
    have e1 : (args.map a.eval) = (args.toList.map a.eval).toArray := by apply Array.toList_inj.1; simp
    simp only [execOp, ho, resolve, Act.eval, Deferred.ofValue, Sem.run_bind, Sem.run_pure, Result.andThen_ok, invoke]
    rw [← e1]
    simpa using hf _ w
  unfold Oper.wp
  rw [hrun, Oper.upon_enter]
  refine hc.mono ?_
  rintro e w' ⟨us, ys', outs, bsr, bss', rfl, went, rfl, rfl⟩
  simp only
  obtain ⟨c1, c2, rfl⟩ : ∃ c1 c2, bss' = [c1, c2] := by
    match bss', went.nb with
    | [b, c], _ => exact ⟨b, c, rfl⟩
  have hin : ∀ (b c : List Nat) (q : Nat), InL [b, c] q ↔ q ∈ b ∨ q ∈ c := fun b c q => by
    constructor
    · rintro ⟨i, d, h1, h2⟩
      rcases i with _ | _ | i
      · simp at h1; subst h1; exact .inl h2
      · simp at h1; subst h1; exact .inr h2
      · simp at h1
    · rintro (h | h)
      · exact ⟨0, b, rfl, h⟩
      · exact ⟨1, c, rfl, h⟩
  have hinR : ∀ q, InL bsr q → InL (bsr ++ [c1, c2]) q := fun q ⟨i, b, h1, h2⟩ => ⟨i, b, by rw [List.getElem?_append_left (List.getElem?_eq_some_iff.1 h1).1]; exact h1, h2⟩
  have hin1 : ∀ q, q ∈ c1 → InL (bsr ++ [c1, c2]) q := fun q h => ⟨bsr.length, c1, by simp, h⟩
  have hin2 : ∀ q, q ∈ c2 → InL (bsr ++ [c1, c2]) q := fun q h => ⟨bsr.length + 1, c2, by simp, h⟩
  have hown' := went.own
  have hownR : Own2 bsr := ⟨fun i b h => hown'.nodup i b (by rw [List.getElem?_append_left (List.getElem?_eq_some_iff.1 h).1]; exact h), fun i j b b' hne h1 h2 => hown'.disj i j b b' hne (by rw [List.getElem?_append_left (List.getElem?_eq_some_iff.1 h1).1]; exact h1) (by rw [List.getElem?_append_left (List.getElem?_eq_some_iff.1 h2).1]; exact h2)⟩
  have hmine : ∀ q, InL (bsr ++ [c1, c2]) q → w.heap.size ≤ q ∨ (q ∈ b1 ∨ q ∈ b2) := fun q h => (went.mine q h).imp id (hin _ _ _).1
  have hFR : ∀ q, (q ∈ b1 ∨ q ∈ b2) ↔ ∃ r bs, (r = r1 ∨ r = r2) ∧ bss[r]? = some bs ∧ q ∈ bs := fun q => by
    constructor
    · rintro (h | h)
      · exact ⟨r1, b1, .inl rfl, hb1, h⟩
      · exact ⟨r2, b2, .inr rfl, hb2, h⟩
    · rintro ⟨r, bs, rfl | rfl, h1, h2⟩
      · rw [hb1] at h1; injection h1 with h1; subst h1; exact .inl h2
      · rw [hb2] at h1; injection h1 with h1; subst h1; exact .inr h2
  have getT : ∀ (r k : Nat) (x : AV), ((T.slots.set r1 (k1, .own e1 xs1')).set r2 (k2, .own e2 ys1'))[r]? = some (k, x) → (r = r1 ∧ k = k1 ∧ x = .own e1 xs1') ∨ (r = r2 ∧ k = k2 ∧ x = .own e2 ys1') ∨ (r ≠ r1 ∧ r ≠ r2 ∧ T.slots[r]? = some (k, x)) := fun r k x hh => by
    rw [getElem?_set_ _ _ _ _ (by simpa using hr2)] at hh
    split at hh
    · rename_i e; injection hh with hh; injection hh with h3 h4; exact .inr (.inl ⟨e.symm, h3.symm, h4.symm⟩)
    · rename_i e0
      rw [getElem?_set_ _ _ _ _ hr1] at hh
      split at hh
      · rename_i e; injection hh with hh; injection hh with h3 h4; exact .inl ⟨e.symm, h3.symm, h4.symm⟩
      · rename_i e; exact .inr (.inr ⟨fun h => e h.symm, fun h => e0 h.symm, hh⟩)
  have getB : ∀ (r : Nat) (bs : List Nat), ((bss.set r1 c1).set r2 c2)[r]? = some bs → (r = r1 ∧ bs = c1) ∨ (r = r2 ∧ bs = c2) ∨ (r ≠ r1 ∧ r ≠ r2 ∧ bss[r]? = some bs) := fun r bs hh => by
    rw [getElem?_set_ _ _ _ _ (by simp [hm.nb]; exact hr2)] at hh
    split at hh
    · rename_i e; injection hh with hh; exact .inr (.inl ⟨e.symm, hh.symm⟩)
    · rename_i e0
      rw [getElem?_set_ _ _ _ _ (by rw [hm.nb]; exact hr1)] at hh
      split at hh
      · rename_i e; injection hh with hh; exact .inl ⟨e.symm, hh.symm⟩
      · rename_i e; exact .inr (.inr ⟨fun h => e h.symm, fun h => e0 h.symm, hh⟩)
  have hc12 : ∀ q, q ∈ c1 → q ∉ c2 := hown'.disj bsr.length (bsr.length + 1) c1 c2 (by omega) (by simp) (by simp)
  obtain ⟨hm2, hf2⟩ := hm.setMany (S2 := After S w w' [b1, b2] (bsr ++ [c1, c2])) (T' := ⟨(T.slots.set r1 (k1, .own e1 xs1')).set r2 (k2, .own e2 ys1'), T.ep⟩) (bss' := (bss.set r1 c1).set r2 c2) (fun r => r = r1 ∨ r = r2) (fun q => q ∈ b1 ∨ q ∈ b2) hFR
    (went.kept.mono fun q _ h h' => h ((hin _ _ _).1 h')) (fun q h => .inl h) (fun q h => h.imp id fun ⟨h1, h2, h3⟩ => ⟨h1.imp id (hin _ _ _).1, h2, fun r bs' hD hb hq => by
      rcases getB r bs' hb with ⟨_, rfl⟩ | ⟨_, rfl⟩ | ⟨n1, n2, _⟩
      · exact h3 (hin1 q hq)
      · exact h3 (hin2 q hq)
      · exact hD.elim n1 n2⟩) (by simp) (by simp) rfl (fun r k x hh => by
      rcases getT r k x hh with ⟨rfl, rfl, rfl⟩ | ⟨rfl, rfl, rfl⟩ | ⟨n1, n2, h3⟩
      · exact .inr ⟨.inl rfl, e1, xs1, xs1', hs1, rfl, hl1⟩
      · exact .inr ⟨.inr rfl, e2, ys1, ys1', hs2, rfl, hl2⟩
      · exact .inl ⟨fun h => h.elim n1 n2, h3⟩) (fun r bs' hb => by
      rcases getB r bs' hb with ⟨rfl, rfl⟩ | ⟨rfl, rfl⟩ | ⟨n1, n2, h3⟩
      · exact .inr ⟨.inl rfl, hown'.nodup bsr.length _ (by simp), fun q hq => (hmine q (hin1 q hq)).symm⟩
      · exact .inr ⟨.inr rfl, hown'.nodup (bsr.length + 1) _ (by simp), fun q hq => (hmine q (hin2 q hq)).symm⟩
      · exact .inl ⟨fun h => h.elim n1 n2, h3⟩) (fun r k x v bs' hD hh hvr hb => by
      rcases getT r k x hh with ⟨rfl, rfl, rfl⟩ | ⟨rfl, rfl, rfl⟩ | ⟨n1, n2, h3⟩
      · rw [hv1] at hvr; injection hvr with hvr; subst hvr
        rcases getB _ bs' hb with ⟨_, rfl⟩ | ⟨h, _⟩ | ⟨h, _⟩
        · exact went.rep 0 _ _ _ rfl rfl rfl
        · exact absurd h hne
        · exact absurd rfl h
      · rw [hv2] at hvr; injection hvr with hvr; subst hvr
        rcases getB _ bs' hb with ⟨h, _⟩ | ⟨_, rfl⟩ | ⟨_, h, _⟩
        · exact absurd h.symm hne
        · exact went.rep 1 _ _ _ rfl rfl rfl
        · exact absurd rfl h
      · exact hD.elim (fun h => absurd h n1) (fun h => absurd h n2)) (fun r r' bs bs' hD hD' hne' h1 h2 q hq hq' => by
      rcases getB r bs h1 with ⟨ra, rfl⟩ | ⟨ra, rfl⟩ | ⟨n1, n2, _⟩
      · rcases getB r' bs' h2 with ⟨rb, rfl⟩ | ⟨rb, rfl⟩ | ⟨m1, m2, _⟩
        · exact hne' (ra.trans rb.symm)
        · exact hc12 q hq hq'
        · exact hD'.elim m1 m2
      · rcases getB r' bs' h2 with ⟨rb, rfl⟩ | ⟨rb, rfl⟩ | ⟨m1, m2, _⟩
        · exact hc12 q hq' hq
        · exact hne' (ra.trans rb.symm)
        · exact hD'.elim m1 m2
      · exact hD.elim n1 n2)
  obtain ⟨vals', bss'', g1, g2, g3⟩ := unp_ok ys' us bsr _ vals _ hm2 went.nu went.nr (fun i u y bs q1 q2 q3 => by
    have hny : nrefA y = true := List.all_eq_true.1 hn y (List.mem_of_getElem? q2)
    rcases went.res i u y bs q1 q2 q3 with h | ⟨h1, h2⟩
    · exact .inl h
    · exact .inr ⟨h1, hny, _, _, h2⟩) hownR (fun q hq => by
      have hq2 := hmine q (hinR q hq)
      refine ⟨fun ⟨i, b, h1, h2⟩ => ?_, fun h => ?_, ?_⟩
      · obtain ⟨j, bj, h3, h4⟩ := hq
        have hj := (List.getElem?_eq_some_iff.1 h3).1
        rcases getB i b h1 with ⟨_, rfl⟩ | ⟨_, rfl⟩ | ⟨n1, n2, h5⟩
        · exact hown'.disj j bsr.length bj _ (by omega) (by rw [List.getElem?_append_left hj]; exact h3) (by simp) q h4 h2
        · exact hown'.disj j (bsr.length + 1) bj _ (by omega) (by rw [List.getElem?_append_left hj]; exact h3) (by simp) q h4 h2
        · rcases hq2 with h | h | h
          · have := hm.blt h5 q h2; omega
          · exact hm.disj r1 i b1 b (fun e => n1 e.symm) hb1 h5 q h h2
          · exact hm.disj r2 i b2 b (fun e => n2 e.symm) hb2 h5 q h h2
      · rcases h with h | ⟨_, _, h⟩
        · rcases hq2 with h' | h' | h'
          · have := hm.lt q h; omega
          · exact hm.apart r1 b1 hb1 q h' h
          · exact hm.apart r2 b2 hb2 q h' h
        · exact h (hinR q hq)
      · rcases hq2 with h | h | h
        · have := hm.kept.size; exact .inr (by omega)
        · exact hm.mine r1 b1 hb1 q h
        · exact hm.mine r2 b2 hb2 q h)
  subst hT
  refine hK _ _ _ _ _ g1 (fun u x h => g2 u x (hf2 u x h)) ?_
  subst hx
  match us, hz : (unp ys' ⟨(T.slots.set r1 (k1, .own e1 xs1')).set r2 (k2, .own e2 ys1'), T.ep⟩).1, g3 with
  | [], zs, r =>
    have : zs = [] := List.eq_nil_of_length_eq_zero r.1.symm
    subst this
    exact ⟨#[], rfl, RL.nil⟩
  | [u], zs, r =>
    obtain ⟨z, rfl⟩ : ∃ z, zs = [z] := by
      match zs, r.1 with
      | [z], _ => exact ⟨z, rfl⟩
    have := r.2 0 u z rfl rfl
    cases z with
    | tup cs => exact absurd rfl (Rep.plain (show Rep _ _ _ _ _ (.tup cs) from this) cs).2
    | _ => exact this
  | u :: u2 :: us, zs, r =>
    obtain ⟨z1, z2, zs', rfl⟩ : ∃ z1 z2 zs', zs = z1 :: z2 :: zs' := by
      match zs, r.1 with
      | z1 :: z2 :: zs', _ => exact ⟨z1, z2, zs', rfl⟩
    exact ⟨_, rfl, by simpa using r⟩
end
end Go.Proofs.Ytjgbbffcjbmjmaa
