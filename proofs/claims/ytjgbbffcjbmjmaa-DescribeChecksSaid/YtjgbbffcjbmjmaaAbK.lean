import Derived.Test.YtjgbbffcjbmjmaaAbI
namespace Go.Proofs.Ytjgbbffcjbmjmaa
open Go.RowKit
set_option linter.unusedSimpArgs false
set_option linter.unusedVariables false

/-! ### Operations of which only something is known -/
section
variable {C : Cx} {o : Oper} {ev : Operand → AV} {T : Sl}
def OpE (C : Cx) (o : Oper) (ev : Operand → AV) (T : Sl) (p : AV → Prop) : Prop :=
  ∀ (a : Act) (w : World) (S : Nat → Prop) (vals : List Value) (bss : List (List Nat)), Mem C T S vals bss w → (∀ y ∈ o.op.operands, TmpOK C.P S w T vals (a.eval y) (ev y)) →
    ∃ v x, p x ∧ (∀ w, (execOp a.eval o).run C.P w = .ok (.value v) w) ∧ TmpOK C.P S w T vals v x
theorem awE {ops : Array Oper} {Q : Exit → Sta → Prop} {l : List Oper} {env : Nat → AV} {n : Nat} {p : AV → Prop} (hj : OpE C o (evA env) T p) (h : ∀ x, p x → AWL C ops Q l ⟨putE env o.dst x, T, n⟩) (hg : o.guard = none := by rfl) (ho : opsOk o n = true := by rfl) : AWL C ops Q (o :: l) ⟨env, T, n⟩ := by
  intro a w hs
  obtain ⟨hd, hn, S, vals, bss, hm, he⟩ := id hs
  obtain ⟨v, x, hp, hr, hx⟩ := hj a w S vals bss hm (St.ops hn he ho)
  refine wpList_plain hg fun K hK => ?_
  unfold Oper.wp
  rw [hr w]
  exact hK _ _ (h x hp _ _ (St.put hd hn he hm Follows.refl hx))
/-- Whether a list is nil is not known; if it is, it is empty. -/
theorem op_eqnil {t e : TypeId} {yt : TypeId} {y : Operand} {es : List (List AV)} (ho : o.op = .binOp .eql t y (.const (.slice none 0 0)) yt) (hy : ev y = .ro es) (ht : C.P.underlying t = some (.slice e)) (hs : ∀ r ∈ es, r ≠ []) : OpE C o ev T fun x => ∃ b : Bool, x = .v (.bool b) ∧ (b = true → es = []) := by
  intro a w S vals bss hm h
  have h1 := h y (by simp [ho, Op.operands])
  rw [hy] at h1
  obtain ⟨-, A, c, sz, us, e1, h2, h3, h4, h5, h6, h7⟩ := (show Rep C.P S w [] (a.eval y) (.ro es) from h1).ro_inv
  have he : a.eval (.const (.slice none 0 0)) = .slice none 0 0 := rfl
  have hrun : ∀ (A : Option Addr) w, (binOp .eql t (.slice A es.length c) (.slice none 0 0)).run C.P w = .ok (.bool A.isNone) w := fun A w => by
    unfold binOp
    simp only [Op.equal]
    rw [Sem.run_bind, show Op.maxDepth = 9999 + 1 from rfl]
    unfold Op.equalIn
    rw [Sem.run_bind, run_underlying ht]
    cases A <;> simp
  refine ⟨.bool A.isNone, _, ⟨A.isNone, rfl, fun hb => ?_⟩, fun w => ?_, TmpOK.v_ rfl⟩
  · cases A with
    | some A => cases hb
    | none =>
      have hu : us = [] := by
        rcases Nat.eq_zero_or_pos us.length with hu | hu
        · exact List.eq_nil_of_length_eq_zero hu
        · obtain ⟨g, o, hA, _⟩ := h5 hu
          cases hA
      have hfl : es.flatten = [] := List.eq_nil_of_length_eq_zero (by rw [← h6, hu]; rfl)
      cases es with
      | nil => rfl
      | cons r es => exact absurd (List.append_eq_nil_iff.1 hfl).1 (hs r (by simp))
  · have hgd : ∀ w, (eqGuard .eql t y (.const (.slice none 0 0)) (.slice A es.length c) (.slice none 0 0)).run C.P w = .ok () w := fun w => by unfold eqGuard; simp
    simp [execOp, ho, e1, he, hgd, hrun]
/-! ### Closures that capture what is only read -/
theorem Rep.aggOK {P : Program} {S : Nat → Prop} {w : World} {T : Sl} {vals : List Value} {u : Value} {x : AV} (h : Rep P S w [] u x) : AggOK P S w T vals u x := by
  cases x with
  | any => trivial
  | agg cs => exact absurd rfl (Rep.plain h cs).1
  | _ => exact h.ref (T := T) (vals := vals)
/-- What is read and no reference. -/
def repA : AV → Bool
  | .v _ => true
  | .ro _ => true
  | .rof _ => true
  | .rop _ => true
  | .clo _ _ => true
  | _ => false
theorem TmpOK.repA {P : Program} {S : Nat → Prop} {w : World} {T : Sl} {vals : List Value} {u : Value} {x : AV} (h : TmpOK P S w T vals u x) (hx : repA x = true) : Rep P S w [] u x := by
  cases x <;> first | exact h | cases hx
theorem op_makeFunc {f : FuncId} {caps : Array Operand} {xs : List AV} (ho : o.op = .makeFunc (.func f) #[] caps) (hc : caps.toList.map ev = xs) (hx : xs.all repA = true) : OpP C o ev T (.clo f xs) := by
  subst hc
  intro a w S vals bss hm h
  refine ⟨.func (.func f) #[] (caps.toList.map a.eval).toArray, fun w => ?_, ?_⟩
  · have e1 : (caps.map a.eval) = (caps.toList.map a.eval).toArray := by apply Array.toList_inj.1; simp
    simp [execOp, ho, Instr.makeFunc, ← e1]
  · refine (show Rep C.P S w [] _ (.clo f _) from Rep.clo (by simp) fun i u x hu hx' => ?_)
    rw [List.getElem?_map] at hu hx'
    cases hq : caps.toList[i]? with
    | none => rw [hq] at hu; cases hu
    | some y =>
      rw [hq] at hu hx'
      injection hu with hu; subst hu
      injection hx' with hx'; subst hx'
      have hy : y ∈ caps := by simpa using List.mem_of_getElem? hq
      refine TmpOK.repA (h y (by simp [ho, Op.operands]; exact hy)) ?_
      exact List.all_eq_true.1 hx _ (List.mem_map.2 ⟨y, by simpa using hy, rfl⟩)
theorem Rep.clo_inv {P : Program} {S : Nat → Prop} {w : World} {bs : List Nat} {u : Value} {f : FuncId} {caps : List AV} (h : Rep P S w bs u (.clo f caps)) : ∃ us : List Value, u = .func (.func f) #[] us.toArray ∧ us.length = caps.length ∧ ∀ (i : Nat) (u : Value) (x : AV), us[i]? = some u → caps[i]? = some x → Rep P S w [] u x := by
  cases h with
  | clo h1 h2 => exact ⟨_, rfl, h1, h2⟩
theorem op_cloQ {f : FuncId} {p : Operand} {args : Array Operand} {ts : Array TypeId} {b : Bool} {ev : Operand → AV} {xs caps : List AV} {y : Value} (ho : o.op = .call { callee := .value p, args := args, argTypes := ts }) (hp : ev p = .clo f caps) (hf : Enters C.P f) (hsp : Fn C.P f [] (xs ++ caps) [.v y] []) (hv : RL (View T b) (args.toList.map ev) xs) (hx : y.oneCell' = true) : OpQ C o ev T (.v y) := by
  intro a w S vals bss hm h
  refine ⟨y, fun w' hk => ?_, TmpOK.v_ hx⟩
  have hp1 := h p (by simp [ho, Op.operands, Call.operands])
  rw [hp] at hp1
  obtain ⟨us, hfv, hul, hur⟩ := (show Rep C.P S w [] _ (.clo f caps) from hp1).clo_inv
  have hargs : ∀ y ∈ args, TmpOK C.P S w' T vals (a.eval y) (ev y) := fun y hy => TmpOK.follows (Follows.kept hk (fun _ _ _ => trivial) fun _ h => h) (h y (by simp [ho, Op.operands, Call.operands]; exact .inr hy))
  have hcame := came0 (hm.grow hk) hv hargs
  have hcaps : RL (AggOK C.P (lent b S bss) w' (insT []) []) us caps := ⟨hul, fun i u x h1 h2 => (((hur i u x h1 h2).kept hk (fun _ _ _ => trivial) (by simp)).mono fun k _ hk => .inl hk).aggOK⟩
  have hc := hsp w' (lent b S bss) [] [] (args.toList.map a.eval ++ us) { hcame with args := hcame.args.append hcaps }
  have hrun : (execOp a.eval o).run C.P w' = .ok (.enter f (args.toList.map a.eval ++ us).toArray) w' := by
    have e1 : (args.map a.eval ++ us.toArray) = (args.toList.map a.eval ++ us).toArray := by apply Array.toList_inj.1; simp
    simp only [execOp, ho, resolve, hfv, Deferred.ofValue, Sem.run_bind, Sem.run_pure, Result.andThen_ok, invoke]
    rw [← e1]
    simpa using hf _ w'
  unfold Oper.quietAt
  rw [hrun]
  refine ⟨rfl, hc.mono ?_⟩
  rintro e w'' ⟨us, ys', outs, bsr, bss', rfl, went, rfl, rfl⟩
  have hk2 : Kept (fun _ => True) w' w'' := went.kept.mono fun k _ _ ⟨r, bs, h, _⟩ => by simp at h
  refine ⟨?_, hk.trans hk2⟩
  match us, went.nu with
  | [u], _ =>
    have hr := went.res 0 u (.v y) (bsr[0]'(by rw [went.nr]; simp)) rfl rfl (List.getElem?_eq_getElem _)
    rcases hr with h | ⟨_, h⟩
    · rw [retV, h.v_inv.1]
    · rw [retV, (show Rep C.P _ w'' [] u (.v y) from h).v_inv.1]
end
section
variable {C : Cx} {o : Oper} {ev : Operand → AV} {T : Sl}
/-- A new box that is only read from the start. -/
theorem OpJ.frzP {e : TypeId} {row : List AV} (h : OpJ C o ev T (.ptr T.slots.length T.ep 0 0) (pushT T (.own e [row]))) (hx : ∀ c ∈ row, flatA c = true) : OpJ C o ev T (.rop row) T := by
  generalize hes : [row] = es at h
  replace hx : ∀ r ∈ es, ∀ c ∈ r, flatA c = true := fun r hr => by rw [← hes] at hr; rw [List.mem_singleton.1 hr]; exact hx
  intro a w S vals bss hm0 ho K hK Q
  refine h a w S vals bss hm0 ho K (fun v w' S' vals' bss' hm hf hv => ?_) Q
  have hT : (pushT T (.own e es)).slots[T.slots.length]? = some (T.ep, .own e es) := by simp [pushT]
  have hlt : ∀ r, r < T.slots.length → (pushT T (.own e es)).slots[r]? = T.slots[r]? := fun r hr => by
    show (T.slots ++ [_])[r]? = _
    rw [List.getElem?_append_left hr]
  have hle : T.slots.length ≤ (pushT T (.own e es)).slots.length := by simp [pushT]
  obtain ⟨v2, bs, hv2, hb, hrep⟩ := hm.slot hT
  obtain ⟨us, A, c, sz, hve, p1, p2, hsz, hi, hul, hcc, hcell⟩ := rep_freeze hrep hx
  have tk : ∀ {α : Type} (l : List α) (r : Nat) (x : α), (l.take T.slots.length)[r]? = some x → r < T.slots.length ∧ l[r]? = some x := fun l r x h => by
    rw [List.getElem?_take] at h
    split at h
    · exact ⟨by assumption, h⟩
    · cases h
  have hup : ∀ (r k : Nat) (x : AV), T.slots[r]? = some (k, x) → (pushT T (.own e es)).slots[r]? = some (k, x) := fun r k x hr => by
    rw [hlt r (List.getElem?_eq_some_iff.1 hr).1]; exact hr
  refine hK v w' (fun q => S' q ∨ q ∈ bs) (vals'.take T.slots.length) (bss'.take T.slots.length) ⟨hm.kept, fun q h => .inl (hm.s0 q h), fun q h => ?_, fun q h => ?_, by rw [List.length_take, hm.nv]; omega, by rw [List.length_take, hm.nb]; omega,
    fun r k x v bs q1 q2 q3 => (hm.rep r k x v bs (hup _ _ _ q1) (tk _ _ _ q2).2 (tk _ _ _ q3).2).mono fun _ _ h => .inl h, fun r bs q => hm.nodup r bs (tk _ _ _ q).2, fun r r' b1 b2 hne q1 q2 => hm.disj r r' b1 b2 hne (tk _ _ _ q1).2 (tk _ _ _ q2).2, fun r b1 q b hb1 hS => ?_, fun r bs q => hm.mine r bs (tk _ _ _ q).2, fun r x hlt' q => ?_, hm0.ver, hm0.pos⟩ ?_ ?_
  · rcases h with h | h
    · exact hm.sub q h
    · exact (hm.mine _ bs hb q h).elim (fun h => .inr (.inl h)) (fun h => .inr (.inr h))
  · rcases h with h | h
    · exact hm.lt q h
    · exact hm.blt hb q h
  · obtain ⟨q1, q2⟩ := tk _ _ _ q
    rcases hS with hS | hS
    · exact hm.apart r b1 q2 b hb1 hS
    · exact hm.disj r _ b1 bs (by omega) q2 hb b hb1 hS
  · have h1 := (List.getElem?_eq_some_iff.1 q).1
    rw [List.getElem?_take, if_pos h1]
    exact hm.root r x hlt' (hup _ _ _ q)
  · intro u x hx
    have hx' := hf u x hx
    cases x with
    | sl r k off len => exact ⟨hx.1, hx.2.1, fun e es v sz q1 q2 q3 => hx'.2.2 e es v sz (hup _ _ _ q1) (tk _ _ _ q2).2 q3⟩
    | ptr r k i j => exact ⟨hx.1, hx.2.1, fun e es v sz q1 q2 q3 => hx'.2.2 e es v sz (hup _ _ _ q1) (tk _ _ _ q2).2 q3⟩
    | mp r k => exact ⟨hx.1, hx.2.1, fun b ks v q1 q2 => hx'.2.2 b ks v (hup _ _ _ q1) (tk _ _ _ q2).2⟩
    | _ => exact RefOK.kept hx' (Kept.refl (fun _ => True) w') (fun _ _ _ => trivial) (fun _ h => .inl h)
  · obtain ⟨hol, g0, nn, cap, hve2, rfl⟩ := hv.2.2 e es v2 sz hT hv2 hi
    rw [hve] at hve2
    injection hve2 with s1 s2 s3
    subst s1
    subst hes
    rw [Nat.zero_mul]
    have hfl : ([row] : List (List AV)).flatten = row := by simp
    rw [hfl] at hul hcc
    refine (show Rep C.P _ w' [] _ (.rop row) from Rep.rop (us := us) (fun hn => ?_) hul fun i u x hu hx => (hcc i u x hu hx).mono fun _ _ h => .inl h)
    obtain ⟨g, r1, r2, r3⟩ := hcell hn
    injection r1 with r1
    injection r1 with r1
    subst r1
    exact ⟨g0, 0, rfl, .inr r2, fun j u hu => by rw [Nat.zero_add]; exact r3 j u hu⟩
end
end Go.Proofs.Ytjgbbffcjbmjmaa
