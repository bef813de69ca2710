import Derived.Test.YtngfknoddphhaaaAb18
import Derived.IntWalk
namespace Go.Proofs.Ytngfknoddphhaaa
open Go.RowKit
set_option linter.unusedSimpArgs false
set_option linter.unusedVariables false

section
variable {C : Cx} {o : Oper} {ev : Operand → AV} {T : Sl} {t yt : TypeId} {p q : Operand} {x y : Int}
theorem op_addi (ho : o.op = .binOp .add t p q yt) (hp : ev p = .v (.int .i64 x)) (hq : ev q = .v (.int .i64 y)) (h : -9223372036854775808 ≤ x + y ∧ x + y ≤ 9223372036854775807) : OpP C o ev T (.v (.int .i64 (x + y))) := op_add ho hp hq (IntWalk.i64_in _ h)
theorem op_subi (ho : o.op = .binOp .sub t p q yt) (hp : ev p = .v (.int .i64 x)) (hq : ev q = .v (.int .i64 y)) (h : -9223372036854775808 ≤ x - y ∧ x - y ≤ 9223372036854775807) : OpP C o ev T (.v (.int .i64 (x - y))) := op_sub ho hp hq (IntWalk.i64_in _ h)
theorem op_muli (ho : o.op = .binOp .mul t p q yt) (hp : ev p = .v (.int .i64 x)) (hq : ev q = .v (.int .i64 y)) (h : -9223372036854775808 ≤ x * y ∧ x * y ≤ 9223372036854775807) : OpP C o ev T (.v (.int .i64 (x * y))) := op_mul ho hp hq (IntWalk.i64_in _ h)
theorem op_quoi (ho : o.op = .binOp .quo t p q yt) (hp : ev p = .v (.int .i64 x)) (hq : ev q = .v (.int .i64 y)) (h : 0 ≤ x ∧ x ≤ 9223372036854775807 ∧ 0 < y) : OpP C o ev T (.v (.int .i64 (x / y))) := op_quo ho hp hq (by omega) (by
  rw [Int.tdiv_eq_ediv_of_nonneg h.1]
  refine IntWalk.i64_in _ ⟨?_, ?_⟩
  · have := Int.ediv_nonneg h.1 (Int.le_of_lt h.2.2); omega
  · have := Int.ediv_le_self y h.1; omega)
theorem op_remi (ho : o.op = .binOp .rem t p q yt) (hp : ev p = .v (.int .i64 x)) (hq : ev q = .v (.int .i64 y)) (h : 0 ≤ x ∧ 0 < y) : OpP C o ev T (.v (.int .i64 (x % y))) := op_rem ho hp hq (by omega) (Int.tmod_eq_emod_of_nonneg h.1)
end
theorem get_map {α β : Type} {f : α → β} {xs : List α} {m : Nat} (h : m < xs.length) : (xs.map f)[m]? = some (f xs[m]) := by simp [h]
theorem ldc_v {x : Value} : ldc (.v x) = .v x := rfl
theorem ldc_ro {x : List (List AV)} : ldc (.ro x) = .ro x := rfl
theorem ldc_rof {x : List (List AV)} : ldc (.rof x) = .rof x := rfl
theorem ldc_rop {x : List AV} : ldc (.rop x) = .rop x := rfl
theorem ldc_own {e : TypeId} {x : List (List AV)} : ldc (.own e x) = .sln x.length := rfl
theorem ldc_sln {n : Nat} : ldc (.sln n) = .sln n := rfl
theorem ldc_any : ldc .any = .any := rfl
theorem stc_v {x : Value} : stc (.v x) = .v x := rfl
theorem stc_ro {x : List (List AV)} : stc (.ro x) = .ro x := rfl
theorem stc_rof {x : List (List AV)} : stc (.rof x) = .rof x := rfl
theorem stc_rop {x : List AV} : stc (.rop x) = .rop x := rfl
theorem stc_sln {n : Nat} : stc (.sln n) = .sln n := rfl
theorem stc_any : stc .any = .any := rfl
theorem stc_sl {a b c d : Nat} : stc (.sl a b c d) = .any := rfl
theorem stc_ptr {a b c d : Nat} : stc (.ptr a b c d) = .any := rfl
section
variable {C : Cx} {K : Sta → Prop} {ops : Array Oper} {o : Oper} {l : List Oper} {env : Nat → AV} {T : Sl} {n : Nat}
/-- The operation without the guard (g, b). -/
def ung (g : Nat) (b : Bool) (o : Oper) : Oper := ⟨o.dst, o.op, o.type, o.pos, o.after, if o.guard == some (g, b) then none else o.guard⟩
theorem ung_dst (g : Nat) (b : Bool) (o : Oper) : (ung g b o).dst = o.dst := rfl
theorem ung_op (g : Nat) (b : Bool) (o : Oper) : (ung g b o).op = o.op := rfl
theorem execOp_ung (g : Nat) (b : Bool) (o : Oper) (ρ : Operand → Value) : execOp ρ (ung g b o) = execOp ρ o := by
  cases o; rfl
theorem wpQuiet_ung {P : Program} {D : World → Prop} {Q : Act → Prop} {g c : Nat} {o' : Oper} {b : Bool} (ho' : ops[g]? = some o') (hd : o'.dst = some c) : ∀ (seg : List Oper) (a : Act), c < a.tmps.size → a.eval (.tmp c) = .bool b → (∀ o ∈ seg, o.dst ≠ some c) → wpQuiet P ops D Q (seg.map (ung g b)) a → wpQuiet P ops D Q seg a
  | [], a, _, _, _, h => h
  | o :: seg, a, hlt, hb, hs, h => by
    have hne := hs o (by simp)
    have keep : ∀ v, (a.put o.dst v).eval (.tmp c) = .bool b := fun v => by
      show (a.put o.dst v).tmps.getD c undef = _
      rw [Act.getD_put, if_neg (fun h => hne h.1)]; exact hb
    have hwant : Region.wanted (ung g b o) (yielded ops a.tmps) = Region.wanted o (yielded ops a.tmps) := by
      unfold ung
      by_cases hg : o.guard = some (g, b)
      · have e : (a.tmps)[c]? = some (.bool b) := by
          have hb' := hb
          simp [Act.eval, hlt] at hb'
          simp [hlt, hb']
        simp [Region.wanted, hg, yielded, ho', hd, e]
      · have : (o.guard == some (g, b)) = false := by rw [beq_eq_false_iff_ne]; exact hg
        simp [Region.wanted, this]
    rw [List.map_cons] at h
    unfold wpQuiet at h ⊢
    rw [hwant] at h
    split
    · rename_i hw
      rw [if_pos hw] at h
      obtain ⟨v, h1, h2⟩ := h
      refine ⟨v, fun w hw' => ?_, wpQuiet_ung ho' hd seg _ (by rw [Act.size_put]; exact hlt) (keep v) (fun o h => hs o (by simp [h])) h2⟩
      have := h1 w hw'
      unfold Oper.quietAt at this ⊢
      rw [execOp_ung] at this
      exact this
    · rename_i hw
      rw [if_neg hw] at h
      exact wpQuiet_ung ho' hd seg _ (by rw [Act.size_put]; exact hlt) (keep undef) (fun o h => hs o (by simp [h])) h
theorem AQ.ung {σ : Sta} {seg : List Oper} {g c : Nat} {o' : Oper} {b : Bool} (ho' : ops[g]? = some o') (hd : o'.dst = some c) (hc : c < σ.n) (hv : σ.env c = .v (.bool b)) (hs : ∀ o ∈ seg, o.dst ≠ some c) (h : AQ C ops K (seg.map (ung g b)) σ) : AQ C ops K seg σ := by
  intro a w S vals bss hst
  exact wpQuiet_ung ho' hd seg a (by rw [hst.2.1]; exact hc) (hst.st.bool (c := .tmp c) (by simpa [noneBig] using hc) rfl hv) hs (h a w S vals bss hst)
/-- 'a && b' ahead: the segment under the guard (g, true), then the pick. -/
theorem aqAnd' {g c d pd : Nat} {b b2 : Bool} {p : Oper} {rest : List Oper} {o' : Oper} (seg : List Oper) (W : List Nat) (hl : l = seg ++ p :: rest) (hg0 : (match l with | o :: _ => o.guard | [] => none) = some (g, true)) (ho' : ops[g]? = some o') (hd : o'.dst = some c) (hc : Nat.ble (c + 1) n = true) (hv : env c = .v (.bool b)) (hs : seg.all (fun o => (o.guard == some (g, true)) && (match o.dst with | some t => W.contains t && t != c | none => true)) = true) (hp : p.op = .pick (.tmp c) (.tmp d) (.const (.bool false))) (hpg : p.guard = none) (hpd : p.dst = some pd) (hdn : Nat.ble (d + 1) n = true) (hcW : W.contains c = false)
    (h1 : b = true → AQ C ops (segK ⟨env, T, n⟩ W d b2) (seg.map (ung g true)) ⟨env, T, n⟩) (h2 : AQ C ops K rest ⟨upd (era W env) pd (.v (.bool (b && b2))), T, n⟩) : AQ C ops K l ⟨env, T, n⟩ :=
  aqAnd seg rest p W hl ho' hd (Nat.le_of_ble_eq_true hc) hv hs hp hpg hpd (Nat.le_of_ble_eq_true hdn) hcW (fun hb => AQ.ung ho' hd (Nat.le_of_ble_eq_true hc) (by subst hb; exact hv) (fun o ho h => by
    have := List.all_eq_true.1 hs o ho
    rw [h] at this
    simp at this) (h1 hb)) h2
theorem aqOr' {g c d pd : Nat} {b b2 : Bool} {p : Oper} {rest : List Oper} {o' : Oper} (seg : List Oper) (W : List Nat) (hl : l = seg ++ p :: rest) (hg0 : (match l with | o :: _ => o.guard | [] => none) = some (g, false)) (ho' : ops[g]? = some o') (hd : o'.dst = some c) (hc : Nat.ble (c + 1) n = true) (hv : env c = .v (.bool b)) (hs : seg.all (fun o => (o.guard == some (g, false)) && (match o.dst with | some t => W.contains t && t != c | none => true)) = true) (hp : p.op = .pick (.tmp c) (.const (.bool true)) (.tmp d)) (hpg : p.guard = none) (hpd : p.dst = some pd) (hdn : Nat.ble (d + 1) n = true) (hcW : W.contains c = false)
    (h1 : b = false → AQ C ops (segK ⟨env, T, n⟩ W d b2) (seg.map (ung g false)) ⟨env, T, n⟩) (h2 : AQ C ops K rest ⟨upd (era W env) pd (.v (.bool (b || b2))), T, n⟩) : AQ C ops K l ⟨env, T, n⟩ :=
  aqOr seg rest p W hl ho' hd (Nat.le_of_ble_eq_true hc) hv hs hp hpg hpd (Nat.le_of_ble_eq_true hdn) hcW (fun hb => AQ.ung ho' hd (Nat.le_of_ble_eq_true hc) (by subst hb; exact hv) (fun o ho h => by
    have := List.all_eq_true.1 hs o ho
    rw [h] at this
    simp at this) (h1 hb)) h2
/-- A segment has come to its end. -/
theorem aqSeg {env0 : Nat → AV} {T0 : Sl} {n0 : Nat} {W : List Nat} {d : Nat} {b2 : Bool} (hT : T = T0) (hn : n = n0) (hv : env d = .v (.bool b2)) (hW : ∀ t, W.contains t = false → env t = env0 t) : AQ C ops (segK ⟨env0, T0, n0⟩ W d b2) [] ⟨env, T, n⟩ := AQ.nil ⟨hT, hn, hv, hW⟩
theorem upd_out {env env0 : Nat → AV} {W : List Nat} {d : Nat} {x : AV} (hd : W.contains d = true) (h : ∀ t, W.contains t = false → env t = env0 t) : ∀ t, W.contains t = false → upd env d x t = env0 t := fun t ht => by
  unfold upd
  rw [if_neg]
  · exact h t ht
  · intro e; subst e; rw [hd] at ht; cases ht
theorem era_out {env env0 : Nat → AV} {W W' : List Nat} (hd : W'.all (fun t => W.contains t) = true) (h : ∀ t, W.contains t = false → env t = env0 t) : ∀ t, W.contains t = false → era W' env t = env0 t := fun t ht => by
  unfold era
  rw [if_neg]
  · exact h t ht
  · intro e
    have := List.all_eq_true.1 hd t (by simpa using e)
    rw [this] at ht; cases ht
theorem aqYes {x : AV} (g d : Nat) {b : Bool} {o' : Oper} (hj : OpQ C o (evA env) T x) (h : AQ C ops K l ⟨putE env o.dst x, T, n⟩) (hv : env d = .v (.bool b)) (hg : o.guard = some (g, b)) (ho' : ops[g]? = some o') (hd : o'.dst = some d) (hdn : Nat.ble (d + 1) n = true) (ho : opsOk o n = true := by rfl) : AQ C ops K (o :: l) ⟨env, T, n⟩ := AQ.yes hg ho' hd (Nat.le_of_ble_eq_true hdn) hv ho hj h
end
end Go.Proofs.Ytngfknoddphhaaa
