import Derived.Test.YtjgbbffcjbmjmaaAbL
namespace Go.Proofs.Ytjgbbffcjbmjmaa
open Go.RowKit
set_option linter.unusedSimpArgs false
set_option linter.unusedVariables false

/-! ### Arrays -/
theorem elem_eqA {P : Program} {t e : TypeId} {n : Nat} (h : P.underlying t = some (.array n e)) : P.elem t = e ∧ P.arrayLen t = n := by simp [Program.elem, Program.arrayLen, h]
section
variable {C : Cx} {o : Oper} {ev : Operand → AV} {T : Sl}
/-- The address of an element of an array (of at least two) in a slot. -/
theorem op_ia_arr {t e : TypeId} {y q : Operand} {kk : IntKind} {n : Int} {r k i j len : Nat} {e0 : TypeId} {es : List (List AV)} (m : Nat) (sz : Nat) (ho : o.op = .indexAddr t y q) (hy : ev y = .ptr r k i j) (hi : ev q = .v (.int kk n))
    (hT : T.slots[r]? = some (k, .own e0 es)) (ht : C.P.underlying t = some (.array len e)) (hn : n = (m : Int)) (hm : m < len) (hs : sizeIs C.P e sz) {j' : Nat} (hj : j + m * sz = j') : OpP C o ev T (.ptr r k i j') := by
  intro a w S vals bss hme h
  have h1 := h y (by simp [ho, Op.operands])
  have h2 := h q (by simp [ho, Op.operands])
  rw [hi] at h2
  rw [hy] at h1
  obtain ⟨v, bs, hv, hb, hrep⟩ := hme.slot hT
  obtain ⟨us, sz', bss', -, hi0, -, -, -, -, -⟩ := hrep.own_inv
  obtain ⟨hil, g, m', cap, hve, e'⟩ := h1.2.2 e0 es v sz' hT hv hi0
  have hee := elem_eqA ht
  subst hn
  have hlt : (m : Int) < (len : Int) := by omega
  refine ⟨.pointer (some ⟨g, i * sz' + j + m * sz, none⟩), fun w => ?_, ⟨h1.1, rfl, ?_⟩⟩
  · simp [execOp, ho, e', h2.v, run_indexAt_array w t _ _ _ (by rw [hee.1, hee.2]; exact ht), hlt, hee.1, hee.2, run_sizeOf hs, add_off]
  · intro e2 es2 v2 sz2 hT2 hv2 hi2
    rw [hT] at hT2
    injection hT2 with hT2
    injection hT2 with _ hT2
    injection hT2 with h3 h4
    subst h3; subst h4
    rw [hv] at hv2
    injection hv2 with hv2
    subst hv2
    have := hi0.inj hi2
    subst this
    exact ⟨hil, g, m', cap, hve, by rw [← hj, Nat.add_assoc]⟩
/-- An element (of one cell) of an array. -/
theorem op_ix_arr {t e : TypeId} {y q : Operand} {kk : IntKind} {n : Int} {cs : List AV} {len : Nat} {x : AV} (m : Nat) (ho : o.op = .index t y q) (hy : ev y = .agg cs) (hi : ev q = .v (.int kk n)) (ht : C.P.underlying t = some (.array len e)) (hn : n = (m : Int)) (hm : m < len) (hs : sizeIs C.P e 1) (ha : aggB C.P e = some false) (hx : cs[m]? = some x) : OpP C o ev T x := by
  intro a w S vals bss hme h
  have h1 := h y (by simp [ho, Op.operands])
  have h2 := h q (by simp [ho, Op.operands])
  rw [hi] at h2
  rw [hy] at h1
  obtain ⟨us, eu, r⟩ := h1.agg
  obtain ⟨u, hu, hr⟩ := r.at_ hx
  have hu' : us[m]? = some u := by simpa using hu
  subst hn
  have hlt : (m : Int) < (len : Int) := by omega
  refine ⟨u, fun w => ?_, hr.tmp⟩
  simp [execOp, ho, eu, h2.v, Instr.index, asIntOf, run_underlying ht, hlt, part, run_isAgg ha, run_sizeOf hs, hu']
  intro h; omega
def isV : AV → Bool
  | .v x => x.oneCell'
  | _ => false
def vOf : AV → Value
  | .v x => x
  | _ => undef
theorem isV_eq {cs : List AV} (h : cs.all isV = true) {i : Nat} {c : AV} (hc : cs[i]? = some c) : c = .v (vOf c) ∧ (vOf c).oneCell' = true := by
  have := List.all_eq_true.1 h c (List.mem_of_getElem? hc)
  cases c <;> first | exact ⟨rfl, this⟩ | cases this
/-- A call that only reads and gives a datum of known cells. -/
theorem op_callQA {f : FuncId} {args : Array Operand} {ts : Array TypeId} {b : Bool} {xs cs : List AV} (ho : o.op = .call { callee := .value (.func f), args := args, argTypes := ts }) (hf : Enters C.P f) (hsp : Fn C.P f [] xs [.agg cs] []) (hv : RL (View T b) (args.toList.map ev) xs) (hx : cs.all isV = true) : OpQ C o ev T (.agg cs) := by
  intro a w S vals bss hm h
  refine ⟨.agg (cs.map vOf).toArray, fun w' hk => ?_, ⟨_, rfl, by simp, fun i u x hu hc => ?_⟩⟩
  · have hargs : ∀ y ∈ args, TmpOK C.P S w' T vals (a.eval y) (ev y) := fun y hy => TmpOK.follows (Follows.kept hk (fun _ _ _ => trivial) fun _ h => h) (h y (by simp [ho, Op.operands, Call.operands]; exact .inr hy))
    have hc := hsp w' (lent b S bss) [] [] _ (came0 (hm.grow hk) hv hargs)
    have hrun : (execOp a.eval o).run C.P w' = .ok (.enter f (args.toList.map a.eval).toArray) w' := by
      have e1 : (args.map a.eval) = (args.toList.map a.eval).toArray := by apply Array.toList_inj.1; simp
      simp only [execOp, ho, resolve, Act.eval, Deferred.ofValue, Sem.run_bind, Sem.run_pure, Result.andThen_ok, invoke]
      rw [← e1]
      simpa using hf _ w'
    unfold Oper.quietAt
    rw [hrun]
    refine ⟨rfl, hc.mono ?_⟩
    rintro e w'' ⟨us, ys', outs, bsr, bss', rfl, went, rfl, rfl⟩
    have hk2 : Kept (fun _ => True) w' w'' := went.kept.mono fun k _ _ ⟨r, bs, h, _⟩ => by simp at h
    refine ⟨?_, hk.trans hk2⟩
    match us, went.nu with
    | [u], _ =>
      have hr := went.res 0 u (.agg cs) (bsr[0]'(by rw [went.nr]; simp)) rfl rfl (List.getElem?_eq_getElem _)
      rcases hr with h | ⟨_, h⟩
      · exact absurd rfl (Rep.plain h cs).1
      · obtain ⟨vs, rfl, hl, hr⟩ := (show ∃ us, u = .agg us ∧ RL _ us.toList cs from h)
        refine congrArg (fun x => Ending.returned (Value.agg x)) (Array.toList_inj.1 ?_)
        apply List.ext_getElem?
        intro i
        rw [List.getElem?_map]
        cases hc : cs[i]? with
        | none => rw [List.getElem?_eq_none (by rw [hl]; exact List.getElem?_eq_none_iff.1 hc)]; rfl
        | some c =>
          obtain ⟨ec, -⟩ := isV_eq hx hc
          have hi : i < vs.toList.length := by rw [hl]; exact (List.getElem?_eq_some_iff.1 hc).1
          have h1 := hr i _ c (List.getElem?_eq_getElem hi) hc
          rw [ec] at h1
          rw [List.getElem?_eq_getElem hi, (show Rep C.P _ w'' [] _ (.v (vOf c)) from h1).v_inv.1]
          rfl
  · rw [List.getElem?_map, hc] at hu
    injection hu with hu
    obtain ⟨ec, h1⟩ := isV_eq hx hc
    rw [ec]
    subst hu
    exact Rep.v h1
end
end Go.Proofs.Ytjgbbffcjbmjmaa
