import Derived.Test.YtngfknoddphhaaaAb13
namespace Go.Proofs.Ytngfknoddphhaaa
open Go.RowKit
set_option linter.unusedSimpArgs false
set_option linter.unusedVariables false

theorem inL_flatten {bss : List (List Nat)} {b : Nat} : InL bss b ↔ b ∈ bss.flatten := by
  constructor
  · rintro ⟨r, bs, h1, h2⟩; exact List.mem_flatten.2 ⟨bs, List.mem_of_getElem? h1, h2⟩
  · intro h
    obtain ⟨bs, h1, h2⟩ := List.mem_flatten.1 h
    obtain ⟨r, hr, rfl⟩ := List.getElem_of_mem h1
    exact ⟨r, _, List.getElem?_eq_getElem hr, h2⟩
theorem AggOK.clo {P : Program} {S S' : Nat → Prop} {w : World} {T : Sl} {vals : List Value} {outs : List AV} {u : Value} {y : AV} (h : TmpOK P S w T vals u y) (hc : cloA outs.length y = true) (hS : ∀ k, S k → S' k) (ho : ∀ (r : Nat) (x : AV), outs[r]? = some x → T.slots[r]? = some (0, x)) : AggOK P S' w (insT outs) vals u y := by
  have one : ∀ u y, clo1 outs.length y = true → RefOK P S w T vals u y → RefOK P S' w (insT outs) vals u y := by
    intro u y hc h
    have sl : ∀ (r k : Nat) (x : AV), (insT outs).slots[r]? = some (k, x) → T.slots[r]? = some (k, x) := fun r k x h => by
      simp only [insT, List.getElem?_map] at h
      cases hq : outs[r]? with
      | none => rw [hq] at h; cases h
      | some x' =>
        rw [hq] at h
        simp only [Option.map_some, Option.some.injEq] at h
        injection h with h1 h2
        subst h1; subst h2
        exact ho r _ hq
    cases y with
    | sl r k off len =>
      simp only [clo1, Bool.and_eq_true, beq_iff_eq, decide_eq_true_eq] at hc
      exact ⟨by simp [insT, hc.2], h.2.1, fun e es v sz q1 q2 q3 => h.2.2 e es v sz (sl _ _ _ q1) q2 q3⟩
    | ptr r k i j =>
      simp only [clo1, Bool.and_eq_true, beq_iff_eq, decide_eq_true_eq] at hc
      exact ⟨by simp [insT, hc.2], h.2.1, fun e es v sz q1 q2 q3 => h.2.2 e es v sz (sl _ _ _ q1) q2 q3⟩
    | mp r k =>
      simp only [clo1, Bool.and_eq_true, beq_iff_eq, decide_eq_true_eq] at hc
      exact ⟨by simp [insT, hc.2], h.2.1, fun b ks v q1 q2 => h.2.2 b ks v (sl _ _ _ q1) q2⟩
    | _ => exact RefOK.kept (T := insT outs) (vals := vals) h (Kept.refl (fun _ => True) w) (fun _ _ _ => trivial) hS
  cases y with
  | any => trivial
  | agg cs =>
    obtain ⟨us, e, r⟩ := h
    refine ⟨us, e, r.1, fun i u x hu hx => one u x ?_ (r.2 i u x hu hx)⟩
    simp only [cloA, List.all_eq_true] at hc
    exact hc x (List.mem_of_getElem? hx)
  | tup cs => cases hc
  | _ => simp only [TmpOK, AggOK] at h ⊢; exact one _ _ hc h
theorem retV_run {P : Program} {fn : Func} {tmps : Array Value} {us : List Value} {w : World} (h : (fn.results.toList.mapM (resOf tmps)).run P w = .ok us w) : (results fn tmps).run P w = .ok (retV us) w := by
  have h2 : (fn.results.mapM (resOf tmps)).run P w = .ok us.toArray w := by
    rw [Array.mapM_eq_mapM_toList]
    simp [h]
  have e : results fn tmps = (do let vs ← fn.results.mapM (resOf tmps); pure (if h : vs.size = 1 then vs[0] else .tuple vs) : Sem Value) := by
    unfold results
    congr 2
    try (funext x; cases x <;> rfl)
  rw [e]
  simp only [Sem.run_bind, h2, Result.andThen_ok, Sem.run_pure]
  congr 1
  match us with
  | [] => rfl
  | [u] => rfl
  | u :: v :: us => simp [retV]
theorem Spec.body {P : Program} {f : FuncId} {fn : Func} {c : Code} {ins xs : List AV} {Q : List AV → List AV → Prop} {n n0 : Nat} (hf : P.funcs[f]? = some fn) (hb : fn.body = some c) (hnn : fn.ntmps = n) (hn : xs.length ≤ n) (h0 : ins.length = n0)
    (h : ∀ S0 own0 v0 w0, AW ⟨P, S0, own0, v0, w0⟩ c (RQ P fn n0 Q) ⟨fun t => xs.getD t .any, insT ins, n⟩) : Spec P f ins xs Q := by
  subst hnn
  subst h0
  intro w S vals bss vs came
  refine calls_of_wp hf hb ?_
  have hvl : vs.length = xs.length := came.args.1
  have hsz : (vs.toArray ++ Array.replicate (fn.ntmps - vs.toArray.size) undef).size = fn.ntmps := by simp; omega
  have hmem : Mem ⟨P, S, bss.flatten, vals, w⟩ (insT ins) S vals bss w := by
    refine ⟨Kept.refl _ _, fun _ h => h, fun _ h => .inl h, came.lt, by simp [insT, came.nv], by simp [insT, came.nb], fun r k x v bs q1 q2 q3 => ?_, came.own.nodup, came.own.disj, fun r bs q b hb' => came.apart b ⟨r, bs, q, hb'⟩, fun r bs q b hb' => .inl (inL_flatten.1 ⟨r, bs, q, hb'⟩), fun _ _ _ _ => rfl, fun r k x q => ?_, by simp [insT]⟩
    · simp only [insT, List.getElem?_map] at q1
      cases hq : ins[r]? with
      | none => rw [hq] at q1; cases q1
      | some x' =>
        rw [hq] at q1
        simp only [Option.map_some, Option.some.injEq] at q1
        injection q1 with _ q1
        subst q1
        exact came.rep r _ v bs hq q2 q3
    · simp only [insT, List.getElem?_map] at q
      cases hq : ins[r]? with
      | none => rw [hq] at q; cases q
      | some x' =>
        rw [hq] at q
        simp only [Option.map_some, Option.some.injEq] at q
        injection q with q _
        subst q
        simp [insT]
  refine wp_mono (h S bss.flatten vals w { tmps := vs.toArray ++ Array.replicate (fn.ntmps - vs.toArray.size) undef, defers := [] } w ⟨rfl, hsz, S, vals, bss, hmem, fun t ht => ?_⟩) ?_
  · by_cases hlt : t < xs.length
    · have hx := List.getElem?_eq_getElem hlt
      obtain ⟨u, hu, hr⟩ := came.args.at_ hx
      have e1 : (vs.toArray ++ Array.replicate (fn.ntmps - vs.toArray.size) undef).getD t undef = u := by
        have hu' : vs.toArray[t]? = some u := by simpa using hu
        rw [Array.getD_eq_getD_getElem?, Array.getElem?_append_left (by simp; omega), hu']
        rfl
      show TmpOK P S w (insT ins) vals ((vs.toArray ++ Array.replicate (fn.ntmps - vs.toArray.size) undef).getD t undef) (xs.getD t .any)
      rw [e1, List.getD_eq_getElem?_getD, hx]
      exact hr.tmp
    · show TmpOK P S w (insT ins) vals ((vs.toArray ++ Array.replicate (fn.ntmps - vs.toArray.size) undef).getD t undef) (xs.getD t .any)
      rw [List.getD_eq_getElem?_getD, List.getElem?_eq_none (by omega)]
      trivial
  · intro e a w' hq
    obtain ⟨σ, ⟨hd, hn', Sf, valsf, bssf, hm, he⟩, hrq⟩ := hq
    have main : (∃ zs ys used outs, RL (ResIs P σ) fn.results.toList zs ∧ Gives σ.T ins.length used zs ys ∧ outs.length = ins.length ∧ (∀ (r : Nat) (x : AV), outs[r]? = some x → σ.T.slots[r]? = some (0, x)) ∧ Q ys outs) → a.defers = [] ∧ ∃ v, (results fn a.tmps).run P w' = .ok v w' ∧ ∃ us ys outs bsr bss', Ending.returned v = .returned (retV us) ∧ Went P w S vals bss w' us ys outs bsr bss' ∧ Q ys outs := by
      rintro ⟨zs, ys, used, outs, h1, h2, h3, h4, h5⟩
      obtain ⟨us, hr1, hr2⟩ := res_run (C := ⟨P, S, bss.flatten, vals, w⟩) ⟨hd, hn', hm, he⟩ _ _ h1
      obtain ⟨rs, g1, g2, g3, g4, g5⟩ := gives_out hm h2 hr2
      have hsl : ∀ r, r < ins.length → ∃ x, outs[r]? = some x ∧ σ.T.slots[r]? = some (0, x) := fun r hr => by
        have := List.getElem?_eq_getElem (l := outs) (i := r) (by omega)
        exact ⟨_, this, h4 r _ this⟩
      have hlen : ins.length ≤ σ.T.slots.length := by
        rcases Nat.eq_zero_or_pos ins.length with h0 | h0
        · omega
        · obtain ⟨x, _, h⟩ := hsl (ins.length - 1) (by omega)
          have := (List.getElem?_eq_some_iff.1 h).1
          omega
      have hval : ∀ r, r < ins.length → valsf[r]? = vals[r]? := fun r hr => by
        obtain ⟨x, _, h⟩ := hsl r hr
        exact hm.root r x (by show r < vals.length; rw [came.nv]; exact hr) h
      refine ⟨hd, retV us, retV_run hr1, us, ys, outs, rs.map (fun q => match q with | some r => bssf.getD r [] | none => []), bssf.take ins.length, rfl, ?_, h5⟩
      generalize hL : (rs.map (fun q => match q with | some r => bssf.getD r [] | none => [])) = bsr
      have hbl : bsr.length = rs.length := by rw [← hL]; simp
      have hkey : ∀ (i : Nat) (bs : List Nat), (bsr ++ bssf.take ins.length)[i]? = some bs → bs = [] ∨ ∃ q, bssf[q]? = some bs ∧ ((i < rs.length ∧ rs[i]? = some (some q)) ∨ (rs.length ≤ i ∧ q = i - rs.length ∧ q < ins.length)) := fun i bs h => by
        by_cases hi : i < rs.length
        · rw [List.getElem?_append_left (by omega), ← hL, List.getElem?_map, List.getElem?_eq_getElem hi] at h
          simp only [Option.map_some, Option.some.injEq] at h
          cases hq : rs[i] with
          | none => rw [hq] at h; exact .inl h.symm
          | some r =>
            rw [hq] at h
            right
            have hr : r < bssf.length := by rw [hm.nb]; exact (g3 i r (by rw [List.getElem?_eq_getElem hi, hq])).2.2
            refine ⟨r, ?_, .inl ⟨hi, by rw [List.getElem?_eq_getElem hi, hq]⟩⟩
            have h : bssf.getD r [] = bs := h
            rw [← h, List.getD_eq_getElem?_getD, List.getElem?_eq_getElem hr]; rfl
        · rw [List.getElem?_append_right (by omega), hbl, List.getElem?_take] at h
          split at h
          · exact .inr ⟨_, h, .inr ⟨by omega, rfl, by assumption⟩⟩
          · cases h
      have hinj : ∀ i j q, ((i < rs.length ∧ rs[i]? = some (some q)) ∨ (rs.length ≤ i ∧ q = i - rs.length ∧ q < ins.length)) → ((j < rs.length ∧ rs[j]? = some (some q)) ∨ (rs.length ≤ j ∧ q = j - rs.length ∧ q < ins.length)) → i = j := by
        rintro i j q (⟨a1, a2⟩ | ⟨a1, a2, a3⟩) (⟨b1, b2⟩ | ⟨b1, b2, b3⟩)
        · exact g4 i j q a2 b2
        · have := (g3 i q a2).2.1; omega
        · have := (g3 j q b2).2.1; omega
        · omega
      have hown : Own2 (bsr ++ bssf.take ins.length) := by
        refine ⟨fun r bs h => ?_, fun r r' b1 b2 hne q1 q2 b hb1 hb2 => ?_⟩
        · rcases hkey r bs h with rfl | ⟨q, h1, _⟩
          · simp
          · exact hm.nodup q bs h1
        · rcases hkey r b1 q1 with rfl | ⟨p1, h1, h2⟩
          · simp at hb1
          · rcases hkey r' b2 q2 with rfl | ⟨p2, h3, h4⟩
            · simp at hb2
            · by_cases hpp : p1 = p2
              · subst hpp; exact hne (hinj r r' p1 h2 h4)
              · exact hm.disj p1 p2 b1 b2 hpp h1 h3 b hb1 hb2
      have hin : ∀ b, InL (bsr ++ bssf.take ins.length) b → InL bssf b := by
        rintro b ⟨i, bs, h, hb'⟩
        rcases hkey i bs h with rfl | ⟨q, h1, _⟩
        · simp at hb'
        · exact ⟨q, bs, h1, hb'⟩
      have hS : ∀ k, Sf k → After S w w' bss (bsr ++ bssf.take ins.length) k := fun k hk => by
        rcases hm.sub k hk with h | h | h
        · exact .inl h
        · refine .inr ⟨.inr (inL_flatten.2 h), hm.lt k hk, fun hi => ?_⟩
          obtain ⟨q, bs, h1, h2⟩ := hin k hi
          exact hm.apart q bs h1 k h2 hk
        · refine .inr ⟨.inl h, hm.lt k hk, fun hi => ?_⟩
          obtain ⟨q, bs, h1, h2⟩ := hin k hi
          exact hm.apart q bs h1 k h2 hk
      refine ⟨hm.kept.mono fun k _ h hk => h (inL_flatten.2 hk), by omega, by omega, by rw [h3, came.nv], by rw [List.length_take, hm.nb, came.nv]; omega, fun i u y bs q1 q2 q3 => ?_, fun r x v bs q1 q2 q3 => ?_, hown, fun b hb' => ?_⟩
      · rw [← hL, List.getElem?_map] at q3
        rcases g5 i u y q1 q2 with ⟨r, b0, p1, p2, p3⟩ | ⟨p1, p2, p3⟩
        · left
          rw [p1] at q3
          simp only [Option.map_some, Option.some.injEq] at q3
          have q3 : bssf.getD r [] = bs := q3
          rw [List.getD_eq_getElem?_getD, p2] at q3
          simp only [Option.getD_some] at q3
          rw [← q3]
          exact p3.mono fun k _ => hS k
        · right
          rw [p1] at q3
          simp only [Option.map_some, Option.some.injEq] at q3
          refine ⟨q3.symm, ?_⟩
          have := AggOK.clo (S' := After S w w' bss (bsr ++ bssf.take ins.length)) (outs := outs) p3 (by rw [h3]; exact p2) hS h4
          have hvv : ∀ (r : Nat) (x : AV), (insT outs).slots[r]? = some (0, x) → valsf[r]? = vals[r]? := fun r x h => by
            have hr : r < outs.length := by have := (List.getElem?_eq_some_iff.1 h).1; simpa [insT] using this
            exact hval r (by omega)
          have conv : ∀ u y, RefOK P (After S w w' bss (bsr ++ bssf.take ins.length)) w' (insT outs) valsf u y → RefOK P (After S w w' bss (bsr ++ bssf.take ins.length)) w' (insT outs) vals u y := by
            intro u y h
            have z : ∀ (r k : Nat) (x : AV), (insT outs).slots[r]? = some (k, x) → valsf[r]? = vals[r]? := fun r k x h => by
              have hr : r < outs.length := by have := (List.getElem?_eq_some_iff.1 h).1; simpa [insT] using this
              exact hval r (by omega)
            cases y with
            | sl r k off len => exact ⟨h.1, h.2.1, fun e es v sz q1 q2 q3 => h.2.2 e es v sz q1 (by rw [z _ _ _ q1]; exact q2) q3⟩
            | ptr r k i j => exact ⟨h.1, h.2.1, fun e es v sz q1 q2 q3 => h.2.2 e es v sz q1 (by rw [z _ _ _ q1]; exact q2) q3⟩
            | mp r k => exact ⟨h.1, h.2.1, fun b ks v q1 q2 => h.2.2 b ks v q1 (by rw [z _ _ _ q1]; exact q2)⟩
            | _ => exact h
          exact AggOK.follows conv this
      · have hr : r < ins.length := by rw [← h3]; exact (List.getElem?_eq_some_iff.1 q1).1
        rw [List.getElem?_take, if_pos hr] at q3
        exact (hm.rep r 0 x v bs (h4 r x q1) (by rw [hval r hr]; exact q2) q3).mono fun k _ => hS k
      · obtain ⟨q, bs, h1, h2⟩ := hin b hb'
        rcases hm.mine q bs h1 b h2 with h | h
        · exact .inr (inL_flatten.2 h)
        · exact .inl h
    cases e with
    | normal => exact main hrq
    | ret => exact main hrq
    | exit i => exact hrq.elim
    | goto l => exact hrq.elim
    | panic c => exact hrq.elim
    | outgrown => exact hrq.elim
end Go.Proofs.Ytngfknoddphhaaa
