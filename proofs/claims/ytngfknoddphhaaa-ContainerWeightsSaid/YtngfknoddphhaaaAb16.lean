import Derived.Test.YtngfknoddphhaaaAb15
namespace Go.Proofs.Ytngfknoddphhaaa
open Go.RowKit
set_option linter.unusedSimpArgs false
set_option linter.unusedVariables false

section
variable {C : Cx} {T : Sl} {S : Nat → Prop} {vals : List Value} {bss : List (List Nat)} {w : World} {o : Oper} {ev : Operand → AV}
/-- A slice of one's own, lent for reading. -/
theorem src_view (hm : Mem C T S vals bss w) {y : AV} {rows : List (List AV)} (h : Src T y rows) {u : Value} (hu : TmpOK C.P S w T vals u y) : Rep C.P (fun k => S k ∨ InL bss k) w [] u (.ro rows) := by
  obtain ⟨A, c, us, sz, e1, h3, h4, h5, h6, h7⟩ := src_cells hm h hu
  subst e1
  refine Rep.ro (us := us) h4 h5 h3 (fun hn => ?_) h6.1 fun i u x q1 q2 => (h6.2 i u x q1 q2).mono fun _ _ h => .inl h
  obtain ⟨g, oo, hA, hc⟩ := h7 hn
  refine ⟨g, oo, hA, ?_, hc⟩
  cases h with
  | ro =>
    obtain ⟨-, A', c', sz', us', e, g1, g2, g3, g4, g5, g6⟩ := hu.ro.ro_inv
    injection e with e1 e2 e3
    obtain ⟨g', o', q1, q2, q3⟩ := g4 (by rw [g5, ← h6.1]; exact hn)
    rw [← e1, hA] at q1
    injection q1 with q1; injection q1 with q1
    rw [q1]; exact .inl q2
  | rof =>
    obtain ⟨-, A', sz', us', e, g2, g3, g4, g5, g6⟩ := (show Rep C.P S w [] _ (.rof rows) from hu).rof_inv
    injection e with e1 e2 e3
    obtain ⟨g', o', q1, q2, q3⟩ := g4 (by rw [g5, ← h6.1]; exact hn)
    rw [← e1, hA] at q1
    injection q1 with q1; injection q1 with q1
    rw [q1]; exact .inl q2
  | nil =>
    have := hu.v
    injection this with e1
    rw [hA] at e1; cases e1
  | sl hT hr =>
    rename_i r k off len e es
    obtain ⟨v, bs, hv, hb, hrep⟩ := hm.slot hT
    obtain ⟨us0, sz0, bss', hbs, hi, hsz, hown, hul, hbl, hc0⟩ := hrep.own_inv
    obtain ⟨hol, A0, nn, cap, hve, g3, g4, g5, g6⟩ := hu.2.2 e es v sz0 hT hv hi
    refine .inr ⟨r, bs, hb, ?_⟩
    rw [hbs]
    refine List.mem_append_left _ ?_
    rcases g6 with ⟨-, h8⟩ | ⟨A', h0, h8, h9⟩
    · injection h8 with q1 q2 q3
      rw [← q1, hA] at hve
      rw [hve]; simp [Value.ownBlock]
    · injection h8 with q1 q2 q3
      rcases Nat.eq_zero_or_pos len with hl | hl
      · exfalso
        have : rows = [] := by
          rw [← hr, hl]; simp
        rw [h6.1, this] at hn
        simp at hn
      · obtain ⟨g', p1, p2⟩ := h9 hl
        rw [← q1, hA] at p2
        injection p2 with p2; injection p2 with p2
        rw [hve, p1, p2]; simp [Value.ownBlock]
theorem ptr_view (hm : Mem C T S vals bss w) {r k i j : Nat} {e : TypeId} {es : List (List AV)} {row cs : List AV} (hT : T.slots[r]? = some (k, .own e es)) (hrow : es[i]? = some row) (hcs : (row.drop j).map ldc = cs) {u : Value} (hu : TmpOK C.P S w T vals u (.ptr r k i j)) : Rep C.P (fun k => S k ∨ InL bss k) w [] u (.rop cs) := by
  obtain ⟨g, oo, he, hc⟩ := ptr_cells hm hT hu hrow
  obtain ⟨v, bs, hv, hb, hrep⟩ := hm.slot hT
  obtain ⟨us0, sz0, bss', hbs, hi, hsz, hown, hul, hbl, hc0⟩ := hrep.own_inv
  obtain ⟨hil, g', n', cap, hve, he2⟩ := hu.2.2 e es v sz0 hT hv hi
  have hget : ∀ q, q < cs.length → ∃ x c, row[j + q]? = some x ∧ w.cell? ⟨g, oo + q, none⟩ = some c ∧ Rep C.P S w [] c (ldc x) := fun q hq => by
    have hl : j + q < row.length := by rw [← hcs] at hq; simp at hq; omega
    have hx := List.getElem?_eq_getElem hl
    obtain ⟨c, bs, h3, h4⟩ := hc q _ hx
    exact ⟨_, c, hx, h3, h4.ldc⟩
  obtain ⟨us, hul2, hus⟩ : ∃ us : List Value, us.length = cs.length ∧ ∀ q u, us[q]? = some u → w.cell? ⟨g, oo + q, none⟩ = some u := by
    refine ⟨(List.range cs.length).map fun q => (w.cell? ⟨g, oo + q, none⟩).getD undef, by simp, fun q u hu => ?_⟩
    have hq : q < cs.length := by have := (List.getElem?_eq_some_iff.1 hu).1; simpa using this
    obtain ⟨x, c, _, h3, _⟩ := hget q hq
    simp [hq, h3] at hu
    rw [h3, hu]
  rw [he]
  refine Rep.rop (us := us) (fun _ => ⟨g, oo, rfl, .inr ⟨r, bs, hb, ?_⟩, hus⟩) hul2 fun q u x h1 h2 => ?_
  · rw [he] at he2
    injection he2 with he2; injection he2 with he2; injection he2 with he2
    rw [hbs, hve, he2]; simp [Value.ownBlock]
  · have hq : q < cs.length := (List.getElem?_eq_some_iff.1 h2).1
    obtain ⟨x', c, p1, p2, p3⟩ := hget q hq
    have := hus q u h1
    rw [p2] at this
    injection this with this
    subst this
    rw [← hcs, List.getElem?_map, List.getElem?_drop, p1] at h2
    simp only [Option.map_some, Option.some.injEq] at h2
    rw [← h2]
    exact p3.mono fun _ _ h => .inl h
/-- What an argument is lent as. -/
inductive View (T : Sl) : Bool → AV → AV → Prop
  | same {b x} (h : nrefA x = true) : View T b x x
  | nil {b} : View T b (.v (.slice none 0 0)) (.ro [])
  | rof {b es} : View T b (.rof es) (.ro es)
  | src {y rows} (h : Src T y rows) : View T true y (.ro rows)
  | ptr {r k i j e es row cs} (hT : T.slots[r]? = some (k, .own e es)) (hrow : es[i]? = some row) (hcs : (row.drop j).map ldc = cs) : View T true (.ptr r k i j) (.rop cs)
theorem rep_ro_nil {P : Program} {S : Nat → Prop} {w : World} : Rep P S w [] (.slice none 0 0) (.ro []) :=
  Rep.ro (es := []) (sz := 0) (us := []) (Nat.le_refl _) (by unfold maxLen; omega) (by simp) (fun h => by simp at h) rfl (by simp)
def lent (b : Bool) (S : Nat → Prop) (bss : List (List Nat)) : Nat → Prop := fun k => S k ∨ (b = true ∧ InL bss k)
theorem view_ok (hm : Mem C T S vals bss w) {b : Bool} {y x : AV} (h : View T b y x) {u : Value} (hu : TmpOK C.P S w T vals u y) : AggOK C.P (lent b S bss) w (insT []) [] u x := by
  have hl : ∀ k, S k → lent b S bss k := fun k h => .inl h
  cases h with
  | same hn =>
    have ha : AggOK C.P S w T vals u y := by
      cases y with
      | tup => cases hn
      | _ => exact hu
    exact ha.nref hn hl
  | nil => rw [hu.v]; exact rep_ro_nil
  | rof => exact (Rep.ro_of_rof (show Rep C.P S w [] u (.rof _) from hu)).mono fun k _ => hl k
  | src h => exact (src_view hm h hu).mono fun k _ h => h.elim .inl fun h => .inr ⟨rfl, h⟩
  | ptr hT hrow hcs => exact (ptr_view hm hT hrow hcs hu).mono fun k _ h => h.elim .inl fun h => .inr ⟨rfl, h⟩
theorem came0 (hm : Mem C T S vals bss w) {b : Bool} {args : Array Operand} {a : Act} {xs : List AV} (hv : RL (View T b) (args.toList.map ev) xs) (ho : ∀ y ∈ args, TmpOK C.P S w T vals (a.eval y) (ev y)) : Came C.P [] xs w (lent b S bss) [] [] (args.toList.map a.eval) := by
  refine ⟨fun k h => ?_, rfl, rfl, by simp, ⟨by simp, by simp⟩, fun b ⟨r, bs, h, _⟩ => by simp at h, by have := hv.1; simpa using this, fun i u x h1 h2 => ?_⟩
  · rcases h with h | ⟨_, r, bs, h1, h2⟩
    · exact hm.lt k h
    · exact hm.blt h1 k h2
  · rw [List.getElem?_map] at h1
    cases hq : args.toList[i]? with
    | none => rw [hq] at h1; cases h1
    | some y =>
      rw [hq] at h1
      simp only [Option.map_some, Option.some.injEq] at h1
      subst h1
      exact view_ok hm (hv.2 i (ev y) x (by rw [List.getElem?_map, hq]; rfl) h2) (ho y (Array.mem_toList_iff.1 (List.mem_of_getElem? hq)))
/-- Entering a function of the program. -/
def Enters (P : Program) (f : FuncId) : Prop := ∀ vs w, (callFunc f vs).run P w = .ok (.enter f vs) w
theorem op_call {f : FuncId} {args : Array Operand} {ts : Array TypeId} {b : Bool} {xs ys : List AV} (ho : o.op = .call { callee := .value (.func f), args := args, argTypes := ts }) (hf : Enters C.P f) (hsp : Fn C.P f [] xs ys []) (hv : RL (View T b) (args.toList.map ev) xs)
    (hn : ys.all nrefA = true) (hsol : b = true → ∀ y ∈ ys, SolidA C.P y) {x : AV} {T' : Sl} (hx : packR (unp ys T).1 = x) (hT : (unp ys T).2 = T') : OpJ C o ev T x T' := by
  intro a w S vals bss hm h K hK Q
  have hargs : ∀ y ∈ args, TmpOK C.P S w T vals (a.eval y) (ev y) := fun y hy => h y (by simp [ho, Op.operands, Call.operands]; exact .inr hy)
  have hc := hsp w (lent b S bss) [] [] _ (came0 hm hv hargs)
  have hrun : (execOp a.eval o).run C.P w = .ok (.enter f (args.toList.map a.eval).toArray) w := by
    have e1 : (args.map a.eval) = (args.toList.map a.eval).toArray := by apply Array.toList_inj.1; simp
    simp only [execOp, ho, resolve, Act.eval, Deferred.ofValue, Sem.run_bind, Sem.run_pure, Result.andThen_ok, invoke]
    rw [← e1]
    simpa using hf _ w
  unfold Oper.wp
  rw [hrun, Oper.upon_enter]
  refine hc.mono ?_
  rintro e w' ⟨us, ys', outs, bsr, bss', rfl, went, rfl, rfl⟩
  simp only
  have hb0 : bss' = [] := List.eq_nil_of_length_eq_zero went.nb
  subst hb0
  have hk : Kept (fun _ => True) w w' := went.kept.mono fun k _ _ ⟨r, bs, h, _⟩ => by simp at h
  have hown : Own2 bsr := by have := went.own; rwa [List.append_nil] at this
  have hmine : ∀ q, InL bsr q → w.heap.size ≤ q := fun q hq => by
    have := went.mine q (by rw [List.append_nil]; exact hq)
    exact this.resolve_right fun ⟨r, bs, h, _⟩ => by simp at h
  have hS2 : ∀ k, S k → S k ∨ (w.heap.size ≤ k ∧ k < w'.heap.size ∧ ¬ InL bsr k) := fun k h => .inl h
  have hm1 := (hm.grow hk).more (S' := fun k => S k ∨ (w.heap.size ≤ k ∧ k < w'.heap.size ∧ ¬ InL bsr k)) hS2 fun k h => by
    rcases h with h | ⟨h1, h2, h3⟩
    · exact .inl h
    · refine .inr ⟨.inr (.inr (by have := hm.kept.size; omega)), h2, fun ⟨r, bs, q1, q2⟩ => ?_⟩
      have := hm.blt q1 k q2; omega
  have hf1 : Follows C.P S w T vals (fun k => S k ∨ (w.heap.size ≤ k ∧ k < w'.heap.size ∧ ¬ InL bsr k)) w' T vals := Follows.kept hk (fun _ _ _ => trivial) hS2
  have hAf : ∀ k, After (lent b S bss) w w' [] (bsr ++ []) k → (S k ∨ (w.heap.size ≤ k ∧ k < w'.heap.size ∧ ¬ InL bsr k)) ∨ (b = true ∧ InL bss k) := fun k h => by
    rcases h with h | ⟨h1, h2, h3⟩
    · rcases h with h | h
      · exact .inl (.inl h)
      · exact .inr h
    · rcases h1 with h1 | ⟨r, bs, h, _⟩
      · rw [List.append_nil] at h3; exact .inl (.inr ⟨h1, h2, h3⟩)
      · simp at h
  obtain ⟨vals', bss'', g1, g2, g3⟩ := unp_ok ys' us bsr T vals bss hm1 went.nu went.nr (fun i u y bs q1 q2 q3 => by
    have hny : nrefA y = true := List.all_eq_true.1 hn y (List.mem_of_getElem? q2)
    cases b with
    | false =>
      have hA : ∀ k, After (lent false S bss) w w' [] (bsr ++ []) k → S k ∨ (w.heap.size ≤ k ∧ k < w'.heap.size ∧ ¬ InL bsr k) := fun k h => (hAf k h).resolve_right (by simp)
      rcases went.res i u y bs q1 q2 q3 with h | ⟨h1, h2⟩
      · exact .inl (h.mono fun k _ => hA k)
      · exact .inr ⟨h1, hny, T, vals, h2.nref hny hA⟩
    | true =>
      have hs := hsol rfl y (List.mem_of_getElem? q2)
      rcases went.res i u y bs q1 q2 q3 with h | ⟨h1, h2⟩
      · left
        cases y with
        | agg cs => exact absurd rfl (h.plain cs).1
        | _ => exact hs _ _ _ _ _ h
      · refine .inr ⟨h1, hny, T, vals, ?_⟩
        cases y with
        | any => trivial
        | agg cs =>
          obtain ⟨us', e, r⟩ := h2
          simp only [nrefA, List.all_eq_true] at hny
          refine ⟨us', e, r.1, fun i u x hu hx => ?_⟩
          have h3 := r.2 i u x hu hx
          have h4 := hny x (List.mem_of_getElem? hx)
          have h5 := hs x (List.mem_of_getElem? hx)
          cases x with
          | sl => cases h4
          | ptr => cases h4
          | mp => cases h4
          | _ => exact h5 _ _ _ _ _ h3
        | sl => cases hny
        | ptr => cases hny
        | mp => cases hny
        | tup => cases hny
        | _ => simp only [AggOK] at h2 ⊢; exact hs _ _ _ _ _ h2) hown (fun q hq => by
      have hge := hmine q hq
      refine ⟨fun ⟨r, bs, q1, q2⟩ => by have := hm.blt q1 q q2; omega, fun h => ?_, .inr (by have := hm.kept.size; omega)⟩
      rcases h with h | h
      · have := hm.lt q h; omega
      · exact h.2.2 hq)
  subst hT
  refine hK _ _ _ _ _ g1 (fun u x h => g2 u x (hf1 u x h)) ?_
  subst hx
  match us, hz : (unp ys' T).1, g3 with
  | [], zs, r =>
    have : zs = [] := List.eq_nil_of_length_eq_zero r.1.symm
    subst this
    exact ⟨#[], rfl, RL.nil⟩
  | [u], zs, r =>
    obtain ⟨z, rfl⟩ : ∃ z, zs = [z] := by
      match zs, r.1 with
      | [z], _ => exact ⟨z, rfl⟩
    exact (r.2 0 u z rfl rfl).tmp
  | u :: u2 :: us, zs, r =>
    obtain ⟨z1, z2, zs', rfl⟩ : ∃ z1 z2 zs', zs = z1 :: z2 :: zs' := by
      match zs, r.1 with
      | z1 :: z2 :: zs', _ => exact ⟨z1, z2, zs', rfl⟩
    exact ⟨_, rfl, by simpa using r⟩
/-- A call that only reads and gives one known value. -/
theorem op_callQ {f : FuncId} {args : Array Operand} {ts : Array TypeId} {b : Bool} {xs : List AV} {x : Value} (ho : o.op = .call { callee := .value (.func f), args := args, argTypes := ts }) (hf : Enters C.P f) (hsp : Fn C.P f [] xs [.v x] []) (hv : RL (View T b) (args.toList.map ev) xs) (hx : x.oneCell' = true) : OpQ C o ev T (.v x) := by
  intro a w S vals bss hm h
  refine ⟨x, fun w' hk => ?_, TmpOK.v_ hx⟩
  have hargs : ∀ y ∈ args, TmpOK C.P S w' T vals (a.eval y) (ev y) := fun y hy => TmpOK.follows (Follows.kept hk (fun _ _ _ => trivial) fun _ h => h) (h y (by simp [ho, Op.operands, Call.operands]; exact .inr hy))
  have hc := hsp w' (lent b S bss) [] [] _ (came0 (hm.grow hk) hv hargs)
  have hrun : (execOp a.eval o).run C.P w' = .ok (.enter f (args.toList.map a.eval).toArray) w' := by
    have e1 : (args.map a.eval) = (args.toList.map a.eval).toArray := by apply Array.toList_inj.1; simp
    simp only [execOp, ho, resolve, Act.eval, Deferred.ofValue, Sem.run_bind, Sem.run_pure, Result.andThen_ok, invoke]
    rw [← e1]
    simpa using hf _ w'
  unfold Oper.quietAt
  rw [hrun]
  refine ⟨rfl, hc.mono ?_⟩
  rintro e w'' ⟨us, ys', outs, bsr, bss', rfl, went, rfl, rfl⟩
  have hk2 : Kept (fun _ => True) w' w'' := went.kept.mono fun k _ _ ⟨r, bs, h, _⟩ => by simp at h
  refine ⟨?_, hk.trans hk2⟩
  match us, went.nu with
  | [u], _ =>
    have hr := went.res 0 u (.v x) (bsr[0]'(by rw [went.nr]; simp)) rfl rfl (List.getElem?_eq_getElem _)
    rcases hr with h | ⟨_, h⟩
    · rw [retV, h.v_inv.1]
    · rw [retV, (show Rep C.P _ w'' [] u (.v x) from h).v_inv.1]
end
end Go.Proofs.Ytngfknoddphhaaa
