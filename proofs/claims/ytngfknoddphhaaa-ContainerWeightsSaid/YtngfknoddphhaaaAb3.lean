import Derived.Test.YtngfknoddphhaaaAb2
namespace Go.Proofs.Ytngfknoddphhaaa
open Go.RowKit
set_option linter.unusedSimpArgs false
set_option linter.unusedVariables false

/-- An operation that only reads: it yields the same in every world in which nothing that was there has turned. -/
def OpR (C : Cx) (o : Oper) (ev : Operand → AV) (T : Sl) (x : AV) : Prop :=
  ∀ (a : Act) (w : World) (S : Nat → Prop) (vals : List Value) (bss : List (List Nat)), Mem C T S vals bss w → (∀ y ∈ o.op.operands, TmpOK C.P S w T vals (a.eval y) (ev y)) →
    ∃ v, (∀ w', Kept (fun _ => True) w w' → (execOp a.eval o).run C.P w' = .ok (.value v) w') ∧ TmpOK C.P S w T vals v x
theorem OpP.r {C : Cx} {o : Oper} {ev : Operand → AV} {T : Sl} {x : AV} (h : OpP C o ev T x) : OpR C o ev T x := fun a w S vals bss hm ho =>
  let ⟨v, hr, hx⟩ := h a w S vals bss hm ho
  ⟨v, fun w' _ => hr w', hx⟩
theorem OpR.j {C : Cx} {o : Oper} {ev : Operand → AV} {T : Sl} {x : AV} (h : OpR C o ev T x) : OpJ C o ev T x T := by
  intro a w S vals bss hm ho K hK Q
  obtain ⟨v, hr, hx⟩ := h a w S vals bss hm ho
  unfold Oper.wp
  rw [hr w (Kept.refl _ _)]
  exact hK v w S vals bss hm Follows.refl hx

/-! ### What a datum of the environment says of its value -/
section
variable {P : Program} {S : Nat → Prop} {w : World} {T : Sl} {vals : List Value} {u : Value}
theorem TmpOK.v {x : Value} (h : TmpOK P S w T vals u (.v x)) : u = x := (show Rep P S w [] u (.v x) from h).v_inv.1
theorem TmpOK.v_ {x : Value} (h : x.oneCell' = true) : TmpOK P S w T vals x (.v x) := Rep.v h
theorem TmpOK.ro {es : List (List AV)} (h : TmpOK P S w T vals u (.ro es)) : Rep P S w [] u (.ro es) := h
theorem TmpOK.agg {cs : List AV} (h : TmpOK P S w T vals u (.agg cs)) : ∃ us, u = .agg us ∧ RL (RefOK P S w T vals) us.toList cs := h
theorem AggOK.tmp {x : AV} (h : AggOK P S w T vals u x) : TmpOK P S w T vals u x := by
  cases x with
  | tup cs => exact absurd rfl (Rep.plain (show Rep P S w [] u (.tup cs) from h) cs).2
  | _ => exact h
end

section
variable {C : Cx} {o : Oper} {ev : Operand → AV} {T : Sl}

theorem op_move {y : Operand} {x : AV} (ho : o.op = .move y) (hx : ev y = x) : OpP C o ev T x := by
  intro a w S vals bss hm h
  have := h y (by simp [ho, Op.operands])
  rw [hx] at this
  exact ⟨a.eval y, fun w => by simp [execOp, ho], this⟩
theorem op_assign {y : Operand} {x : AV} (ho : o.op = .assign y) (hx : ev y = x) : OpP C o ev T x := by
  intro a w S vals bss hm h
  have := h y (by simp [ho, Op.operands])
  rw [hx] at this
  exact ⟨a.eval y, fun w => by simp [execOp, ho], this⟩
theorem op_pick {c p q : Operand} {b : Bool} {x : AV} (ho : o.op = .pick c p q) (hc : ev c = .v (.bool b)) (hx : (if b then ev p else ev q) = x) : OpP C o ev T x := by
  intro a w S vals bss hm h
  have h1 := h c (by simp [ho, Op.operands])
  rw [hc] at h1
  have e := h1.v
  cases b
  · have h2 := h q (by simp [ho, Op.operands])
    rw [show ev q = x from hx] at h2
    exact ⟨a.eval q, fun w => by simp [execOp, ho, e, asBool], h2⟩
  · have h2 := h p (by simp [ho, Op.operands])
    rw [show ev p = x from hx] at h2
    exact ⟨a.eval p, fun w => by simp [execOp, ho, e, asBool], h2⟩
theorem op_extract {y : Operand} {i : Nat} {xs : List AV} {x : AV} (ho : o.op = .extract y i) (hy : ev y = .tup xs) (hx : xs[i]? = some x) : OpP C o ev T x := by
  intro a w S vals bss hm h
  have h1 := h y (by simp [ho, Op.operands])
  rw [hy] at h1
  obtain ⟨us, e, r⟩ := h1
  obtain ⟨u, hu, hr⟩ := r.at_ hx
  refine ⟨u, fun w => ?_, hr.tmp⟩
  have hu' : us[i]? = some u := by simpa using hu
  simp [execOp, ho, e, Instr.extract, hu']
/-- An operator of two known values. -/
theorem op_bin {op : BinOp} {t yt : TypeId} {p q : Operand} {x y z : Value} (ho : o.op = .binOp op t p q yt) (hp : ev p = .v x) (hq : ev q = .v y)
    (hg : ∀ w, (eqGuard op t p q x y).run C.P w = .ok () w) (hr : ∀ w, (binOp op t x y).run C.P w = .ok z w) (hz : z.oneCell' = true) : OpP C o ev T (.v z) := by
  intro a w S vals bss hm h
  have h1 := h p (by simp [ho, Op.operands])
  have h2 := h q (by simp [ho, Op.operands])
  rw [hp] at h1
  rw [hq] at h2
  refine ⟨z, fun w => ?_, TmpOK.v_ hz⟩
  simp [execOp, ho, h1.v, h2.v, hg, hr]
theorem op_un {op : UnOp} {t : TypeId} {p : Operand} {x z : Value} (ho : o.op = .unOp op t p) (hp : ev p = .v x) (hr : ∀ w, (Op.unary op x).run C.P w = .ok z w) (hz : z.oneCell' = true) : OpP C o ev T (.v z) := by
  intro a w S vals bss hm h
  have h1 := h p (by simp [ho, Op.operands])
  rw [hp] at h1
  exact ⟨z, fun w => by simp [execOp, ho, h1.v, hr w], TmpOK.v_ hz⟩
theorem op_not {t : TypeId} {p : Operand} {b b' : Bool} (ho : o.op = .unOp .not t p) (hp : ev p = .v (.bool b)) (hb : (!b) = b') : OpP C o ev T (.v (.bool b')) :=
  op_un ho hp (fun w => by subst hb; rfl) rfl
theorem beq_dec (x y : Int) : (x == y) = decide (x = y) := by rw [Bool.eq_iff_iff]; simp
section ints
variable {t yt : TypeId} {p q : Operand} {k : IntKind} {x y z : Int}
theorem eqGuard_int (op : BinOp) (t : TypeId) (p q : Operand) (k : IntKind) (x y : Int) : ∀ (w : World), (eqGuard op t p q (.int k x) (.int k y)).run C.P w = .ok () w := by
  intro w; unfold eqGuard; cases op <;> simp
theorem op_add (ho : o.op = .binOp .add t p q yt) (hp : ev p = .v (.int k x)) (hq : ev q = .v (.int k y)) (hz : k.wrap (x + y) = z) : OpP C o ev T (.v (.int k z)) :=
  op_bin ho hp hq (eqGuard_int _ _ _ _ _ _ _) (fun w => by simp [binOp, Op.intArith, hz]) rfl
theorem op_sub (ho : o.op = .binOp .sub t p q yt) (hp : ev p = .v (.int k x)) (hq : ev q = .v (.int k y)) (hz : k.wrap (x - y) = z) : OpP C o ev T (.v (.int k z)) :=
  op_bin ho hp hq (eqGuard_int _ _ _ _ _ _ _) (fun w => by simp [binOp, Op.intArith, hz]) rfl
theorem op_mul (ho : o.op = .binOp .mul t p q yt) (hp : ev p = .v (.int k x)) (hq : ev q = .v (.int k y)) (hz : k.wrap (x * y) = z) : OpP C o ev T (.v (.int k z)) :=
  op_bin ho hp hq (eqGuard_int _ _ _ _ _ _ _) (fun w => by simp [binOp, Op.intArith, hz]) rfl
theorem op_quo (ho : o.op = .binOp .quo t p q yt) (hp : ev p = .v (.int k x)) (hq : ev q = .v (.int k y)) (h0 : y ≠ 0) (hz : k.wrap (x.tdiv y) = z) : OpP C o ev T (.v (.int k z)) :=
  op_bin ho hp hq (eqGuard_int _ _ _ _ _ _ _) (fun w => by simp [binOp, Op.intDiv, h0, hz]) rfl
theorem op_rem (ho : o.op = .binOp .rem t p q yt) (hp : ev p = .v (.int k x)) (hq : ev q = .v (.int k y)) (h0 : y ≠ 0) (hz : x.tmod y = z) : OpP C o ev T (.v (.int k z)) :=
  op_bin ho hp hq (eqGuard_int _ _ _ _ _ _ _) (fun w => by simp [binOp, Op.intDiv, h0, hz]) rfl
theorem op_lss (ho : o.op = .binOp .lss t p q yt) (hp : ev p = .v (.int k x)) (hq : ev q = .v (.int k y)) : OpP C o ev T (.v (.bool (decide (x < y)))) :=
  op_bin ho hp hq (eqGuard_int _ _ _ _ _ _ _) (fun w => by simp [binOp, Op.intCmp, beq_dec]) rfl
theorem op_leq (ho : o.op = .binOp .leq t p q yt) (hp : ev p = .v (.int k x)) (hq : ev q = .v (.int k y)) : OpP C o ev T (.v (.bool (decide (x ≤ y)))) :=
  op_bin ho hp hq (eqGuard_int _ _ _ _ _ _ _) (fun w => by simp [binOp, Op.intCmp, beq_dec]) rfl
theorem op_gtr (ho : o.op = .binOp .gtr t p q yt) (hp : ev p = .v (.int k x)) (hq : ev q = .v (.int k y)) : OpP C o ev T (.v (.bool (decide (x > y)))) :=
  op_bin ho hp hq (eqGuard_int _ _ _ _ _ _ _) (fun w => by simp [binOp, Op.intCmp, beq_dec]) rfl
theorem op_geq (ho : o.op = .binOp .geq t p q yt) (hp : ev p = .v (.int k x)) (hq : ev q = .v (.int k y)) : OpP C o ev T (.v (.bool (decide (x ≥ y)))) :=
  op_bin ho hp hq (eqGuard_int _ _ _ _ _ _ _) (fun w => by simp [binOp, Op.intCmp, beq_dec]) rfl
theorem op_eql (ho : o.op = .binOp .eql t p q yt) (hp : ev p = .v (.int k x)) (hq : ev q = .v (.int k y)) : OpP C o ev T (.v (.bool (decide (x = y)))) :=
  op_bin ho hp hq (eqGuard_int _ _ _ _ _ _ _) (fun w => by simp [binOp, Op.intCmp, beq_dec]) rfl
theorem op_neq (ho : o.op = .binOp .neq t p q yt) (hp : ev p = .v (.int k x)) (hq : ev q = .v (.int k y)) : OpP C o ev T (.v (.bool (!decide (x = y)))) :=
  op_bin ho hp hq (eqGuard_int _ _ _ _ _ _ _) (fun w => by simp [binOp, Op.intCmp, bne, beq_dec]) rfl
end ints
section strs
variable {t yt : TypeId} {p q : Operand} {x y : ByteArray}
theorem eqGuard_str (op : BinOp) (t : TypeId) (p q : Operand) (x y : ByteArray) : ∀ (w : World), (eqGuard op t p q (.string x) (.string y)).run C.P w = .ok () w := by
  intro w; unfold eqGuard; cases op <;> simp
theorem op_seql (ho : o.op = .binOp .eql t p q yt) (hp : ev p = .v (.string x)) (hq : ev q = .v (.string y)) : OpP C o ev T (.v (.bool (x.toList == y.toList))) :=
  op_bin ho hp hq (eqGuard_str _ _ _ _ _ _) (fun w => by simp [binOp, Op.stringOp]) rfl
theorem op_sneq (ho : o.op = .binOp .neq t p q yt) (hp : ev p = .v (.string x)) (hq : ev q = .v (.string y)) : OpP C o ev T (.v (.bool !(x.toList == y.toList))) :=
  op_bin ho hp hq (eqGuard_str _ _ _ _ _ _) (fun w => by simp [binOp, Op.stringOp]) rfl
end strs
/-- An operator of two known structs. -/
theorem op_bin_agg {op : BinOp} {t yt : TypeId} {p q : Operand} {xs ys : List Value} {z : Value} (ho : o.op = .binOp op t p q yt) (hp : ev p = .agg (xs.map .v)) (hq : ev q = .agg (ys.map .v))
    (hg : ∀ w, (eqGuard op t p q (.agg xs.toArray) (.agg ys.toArray)).run C.P w = .ok () w) (hr : ∀ w, (binOp op t (.agg xs.toArray) (.agg ys.toArray)).run C.P w = .ok z w) (hz : z.oneCell' = true) : OpP C o ev T (.v z) := by
  intro a w S vals bss hm h
  have h1 := h p (by simp [ho, Op.operands])
  have h2 := h q (by simp [ho, Op.operands])
  rw [hp] at h1
  rw [hq] at h2
  have key : ∀ (u : Value) (xs : List Value), TmpOK C.P S w T vals u (.agg (xs.map .v)) → u = .agg xs.toArray := by
    rintro u xs ⟨us, rfl, r⟩
    congr 1
    apply Array.toList_inj.1
    apply List.ext_getElem?
    intro i
    have hl := r.1
    rw [List.length_map] at hl
    by_cases hi : i < xs.length
    · have := r.2 i us.toList[i] (.v xs[i]) (List.getElem?_eq_getElem (by omega)) (by simp [hi])
      have e : us.toList[i] = xs[i] := (show Rep C.P S w [] _ (.v _) from this).v_inv.1
      rw [List.getElem?_eq_getElem (by omega), e]
      simp [hi]
    · rw [List.getElem?_eq_none (by omega)]
      simp; omega
  refine ⟨z, fun w => ?_, TmpOK.v_ hz⟩
  simp [execOp, ho, key _ _ h1, key _ _ h2, hg, hr]
/-- len of a slice. -/
theorem lenOf_slice {P : Program} {S : Nat → Prop} {w : World} {vals : List Value} {u : Value} {x : AV} {n : Nat} (h : TmpOK P S w T vals u x)
    (hx : x = .sln n ∨ (∃ es, x = .ro es ∧ es.length = n) ∨ (∃ es, x = .rof es ∧ es.length = n) ∨ (n = 0 ∧ x = .v (.slice none 0 0))) : ∃ A c, u = .slice A n c ∧ n ≤ c ∧ c ≤ maxLen := by
  rcases hx with rfl | ⟨es, rfl, rfl⟩ | ⟨es, rfl, rfl⟩ | ⟨rfl, rfl⟩
  · obtain ⟨-, A, c, e, h1, h2⟩ := (show Rep P S w [] u (.sln n) from h).sln_inv
    exact ⟨A, c, e, h1, h2⟩
  · obtain ⟨-, A, c, _, _, e, h1, h2, _⟩ := h.ro.ro_inv
    exact ⟨A, c, e, h1, h2⟩
  · obtain ⟨-, A, _, _, e, h1, _⟩ := (show Rep P S w [] u (.rof es) from h).rof_inv
    exact ⟨A, _, e, Nat.le_refl _, h1⟩
  · exact ⟨none, 0, h.v, Nat.le_refl _, by unfold maxLen; omega⟩
end
end Go.Proofs.Ytngfknoddphhaaa
