import Derived.Test.YtngfknoddphhaaaAb26
namespace Go.Proofs.Ytngfknoddphhaaa
open Go.RowKit
set_option linter.unusedSimpArgs false
set_option linter.unusedVariables false

/-! ### Functions that give a pointer to a block of their own -/
def FnB (P : Program) (f : FuncId) (xs : List AV) (e : TypeId) (row : List AV) : Prop :=
  ∀ (w : World) (S : Nat → Prop) (vs : List Value), Came P [] xs w S [] [] vs → Calls P f vs.toArray w fun en w' => ∃ g n cap bs, en = .returned (.pointer (some ⟨g, 0, none⟩)) ∧ Kept (fun _ => True) w w' ∧ bs.Nodup ∧ (∀ b ∈ bs, w.heap.size ≤ b) ∧
    Rep P (fun k => S k ∨ (w.heap.size ≤ k ∧ k < w'.heap.size ∧ k ∉ bs)) w' bs (.slice (some ⟨g, 0, none⟩) n cap) (.own e [row])
def RQB (fn : Func) (e : TypeId) (row : List AV) : Exit → Sta → Prop
  | .normal, σ | .ret, σ => ∃ t r k, fn.results.toList = [.tmp t] ∧ t < σ.n ∧ σ.env t = .ptr r k 0 0 ∧ σ.T.slots[r]? = some (k, .own e [row])
  | _, _ => False
theorem FnB.body {P : Program} {f : FuncId} {fn : Func} {c : Code} {xs : List AV} {e : TypeId} {row : List AV} {n sz : Nat} (hf : P.funcs[f]? = some fn) (hb : fn.body = some c) (hnn : fn.ntmps = n) (hn : xs.length ≤ n) (hsz : sizeIs P e sz)
    (h : ∀ S0 own0 v0 w0, AW ⟨P, S0, own0, v0, w0⟩ c (RQB fn e row) ⟨fun t => xs.getD t .any, ⟨[], 1⟩, n⟩) : FnB P f xs e row := by
  subst hnn
  intro w S vs came
  refine calls_of_wp hf hb ?_
  have hvl : vs.length = xs.length := came.args.1
  have hszz : (vs.toArray ++ Array.replicate (fn.ntmps - vs.toArray.size) undef).size = fn.ntmps := by simp; omega
  have hmem : Mem ⟨P, S, [], [], w⟩ ⟨[], 1⟩ S [] [] w :=
    ⟨Kept.refl _ _, fun _ h => h, fun _ h => .inl h, came.lt, rfl, rfl, fun r k x v bs q1 => by simp at q1, fun r bs q => by simp at q, fun r r' bs bs' _ q => by simp at q, fun r bs q => by simp at q, fun r bs q => by simp at q, fun r x q => by simp at q, fun r k x q => by simp at q, by simp⟩
  refine wp_mono (h S [] [] w { tmps := vs.toArray ++ Array.replicate (fn.ntmps - vs.toArray.size) undef, defers := [] } w ⟨rfl, hszz, S, [], [], hmem, fun t ht => ?_⟩) ?_
  · by_cases hlt : t < xs.length
    · have hx := List.getElem?_eq_getElem hlt
      obtain ⟨u, hu, hr⟩ := came.args.at_ hx
      have e1 : (vs.toArray ++ Array.replicate (fn.ntmps - vs.toArray.size) undef).getD t undef = u := by
        have hu' : vs.toArray[t]? = some u := by simpa using hu
        rw [Array.getD_eq_getD_getElem?, Array.getElem?_append_left (by simp; omega), hu']
        rfl
      show TmpOK P S w _ _ ((vs.toArray ++ Array.replicate (fn.ntmps - vs.toArray.size) undef).getD t undef) (xs.getD t .any)
      rw [e1, List.getD_eq_getElem?_getD, hx]
      exact hr.tmp
    · show TmpOK P S w _ _ ((vs.toArray ++ Array.replicate (fn.ntmps - vs.toArray.size) undef).getD t undef) (xs.getD t .any)
      rw [List.getD_eq_getElem?_getD, List.getElem?_eq_none (by omega)]
      trivial
  · intro en a w' hq
    obtain ⟨σ, ⟨hd, hn', Sf, valsf, bssf, hm, he⟩, hrq⟩ := hq
    have main : (∃ t r k, fn.results.toList = [.tmp t] ∧ t < σ.n ∧ σ.env t = .ptr r k 0 0 ∧ σ.T.slots[r]? = some (k, .own e [row])) → a.defers = [] ∧ ∃ v, (results fn a.tmps).run P w' = .ok v w' ∧ ∃ g n cap bs, Ending.returned v = .returned (.pointer (some ⟨g, 0, none⟩)) ∧ Kept (fun _ => True) w w' ∧ bs.Nodup ∧ (∀ b ∈ bs, w.heap.size ≤ b) ∧
        Rep P (fun k => S k ∨ (w.heap.size ≤ k ∧ k < w'.heap.size ∧ k ∉ bs)) w' bs (.slice (some ⟨g, 0, none⟩) n cap) (.own e [row]) := by
      rintro ⟨t, r, k, h1, h2, h3, h4⟩
      have hp := he t h2
      rw [h3] at hp
      obtain ⟨v, bs, hv, hb', hrep⟩ := hm.slot h4
      obtain ⟨_, g, n, cap, rfl, hu⟩ := hp.2.2 e [row] v sz h4 hv hsz
      have hu0 : a.tmps.getD t undef = .pointer (some ⟨g, 0, none⟩) := by rw [hu]; simp
      refine ⟨hd, _, retV_run (us := [a.tmps.getD t undef]) (by rw [h1]; exact mapM_run rfl (by simp)), g, n, cap, bs, by rw [retV, hu0], hm.kept.mono (fun k _ _ h => (by cases h)), hm.nodup r bs hb', fun b hb2 => ?_, hrep.mono fun k _ hk => ?_⟩
      · rcases hm.mine r bs hb' b hb2 with h | h
        · cases h
        · exact h
      · rcases hm.sub k hk with h | h | h
        · exact .inl h
        · cases h
        · exact .inr ⟨h, hm.lt k hk, fun h' => hm.apart r bs hb' k h' hk⟩
    cases en with
    | normal => exact main hrq
    | ret => exact main hrq
    | exit i => exact hrq.elim
    | goto l => exact hrq.elim
    | panic c => exact hrq.elim
    | outgrown => exact hrq.elim
section
variable {C : Cx} {T : Sl} {o : Oper} {ev : Operand → AV}
theorem op_callB {f : FuncId} {args : Array Operand} {ts : Array TypeId} {xs : List AV} {e : TypeId} {row : List AV} (ho : o.op = .call { callee := .value (.func f), args := args, argTypes := ts }) (hf : Enters C.P f) (hsp : FnB C.P f xs e row) (hv : RL (View T false) (args.toList.map ev) xs) :
    OpJ C o ev T (.ptr T.slots.length T.ep 0 0) (pushT T (.own e [row])) := by
  intro a w S vals bss hm h K hK Q
  have hargs : ∀ y ∈ args, TmpOK C.P S w T vals (a.eval y) (ev y) := fun y hy => h y (by simp [ho, Op.operands, Call.operands]; exact .inr hy)
  have hc := hsp w (lent false S bss) _ (came0 hm hv hargs)
  have hrun : (execOp a.eval o).run C.P w = .ok (.enter f (args.toList.map a.eval).toArray) w := by
    have e1 : (args.map a.eval) = (args.toList.map a.eval).toArray := by apply Array.toList_inj.1; simp
    simp only [execOp, ho, resolve, Act.eval, Deferred.ofValue, Sem.run_bind, Sem.run_pure, Result.andThen_ok, invoke]
    rw [← e1]
    simpa using hf _ w
  unfold Oper.wp
  rw [hrun, Oper.upon_enter]
  refine hc.mono ?_
  rintro en w' ⟨g, n, cap, bs, rfl, hk, hnd, hge, hrep⟩
  simp only
  have hS2 : ∀ k, S k → S k ∨ (w.heap.size ≤ k ∧ k < w'.heap.size ∧ k ∉ bs) := fun k h => .inl h
  have hm1 := (hm.grow hk).more (S' := fun k => S k ∨ (w.heap.size ≤ k ∧ k < w'.heap.size ∧ k ∉ bs)) hS2 fun k h => by
    rcases h with h | ⟨h1, h2, h3⟩
    · exact .inl h
    · refine .inr ⟨.inr (.inr (by have := hm.kept.size; omega)), h2, fun ⟨r, bs, q1, q2⟩ => ?_⟩
      have := hm.blt q1 k q2; omega
  have hf1 : Follows C.P S w T vals (fun k => S k ∨ (w.heap.size ≤ k ∧ k < w'.heap.size ∧ k ∉ bs)) w' T vals := Follows.kept hk (fun _ _ _ => trivial) hS2
  obtain ⟨hm2, hf2⟩ := hm1.push2 (hrep.mono fun k _ h => h.imp (fun h => h.resolve_right (by simp)) id) hnd fun b hb => by
    have hge := hge b hb
    refine ⟨fun ⟨r, bs, q1, q2⟩ => by have := hm.blt q1 b q2; omega, fun h => ?_, .inr (by have := hm.kept.size; omega)⟩
    rcases h with h | h
    · have := hm.lt b h; omega
    · exact h.2.2 hb
  refine hK _ _ _ _ _ hm2 (fun u x h => hf2 u x (hf1 u x h)) ?_
  refine ⟨by simp [pushT], rfl, fun e' es v sz h1 h2 h3 => ?_⟩
  have h1 : (T.slots ++ [(T.ep, AV.own e [row])])[T.slots.length]? = some (T.ep, .own e' es) := h1
  rw [getElem?_snoc, if_neg (by omega), if_pos rfl] at h1
  rw [getElem?_snoc, hm.nv, if_neg (by omega), if_pos rfl] at h2
  injection h1 with h1; injection h1 with _ h1; injection h1 with h1 h4
  injection h2 with h2
  subst h4; subst h2
  exact ⟨by simp, g, n, cap, rfl, by simp⟩
end
/-! ### The whole -/
theorem Fn.top {P : Program} {f : FuncId} {xs : List AV} (h : Fn P f [] xs [.v (.bool true)] []) (w : World) (vs : List Value) (hargs : RL (AggOK P (fun k => k < w.heap.size) w (insT []) []) vs xs) : Calls P f vs.toArray w fun e w' => e = .returned (.bool true) ∧ Below w.heap.size w w' := by
  refine (h w (fun k => k < w.heap.size) [] [] vs ⟨fun _ h => h, rfl, rfl, by simp, ⟨by simp, by simp⟩, fun b ⟨r, bs, q, _⟩ => by simp at q, hargs⟩).mono ?_
  rintro e w' ⟨us, ys, outs, bsr, bss', rfl, went, rfl, rfl⟩
  have hk : Kept (fun _ => True) w w' := went.kept.mono fun k _ _ ⟨r, bs, h, _⟩ => by simp at h
  refine ⟨?_, hk.below⟩
  match us, went.nu with
  | [u], _ =>
    have hr := went.res 0 u (.v (.bool true)) (bsr[0]'(by rw [went.nr]; simp)) rfl rfl (List.getElem?_eq_getElem _)
    rcases hr with h | ⟨_, h⟩
    · rw [retV, h.v_inv.1]
    · rw [retV, (show Rep P _ w' [] u (.v (.bool true)) from h).v_inv.1]
end Go.Proofs.Ytngfknoddphhaaa
