import Derived.Test.YtjgbbffcjbmjmaaAbP
namespace Go.Proofs.Ytjgbbffcjbmjmaa
open Go.RowKit
set_option linter.unusedSimpArgs false
set_option linter.unusedVariables false
set_option linter.unusedSectionVars false

/-! ### Slices that are appended to an empty literal: they own a block unless they stay empty -/
def nmE (u : Value) (e : TypeId) (es : List (List AV)) : AV := if es = [] then .any else .nm u e es
theorem nmE_pos {u : Value} {e : TypeId} {es : List (List AV)} (h : 0 < es.length) : nmE u e es = .nm u e es := if_neg fun h' => by rw [h'] at h; simp at h
theorem nmE_nil {u : Value} {e : TypeId} {es : List (List AV)} (h : es.length = 0) : nmE u e es = .any := if_pos (List.eq_nil_of_length_eq_zero h)
section
variable {C : Cx} {o : Oper} {ev : Operand → AV} {T : Sl}
/-- []T{} -/
theorem op_lit0 {t e : TypeId} {sz : Nat} (ho : o.op = .buildSlice t 0 #[]) (ht : C.P.underlying t = some (.slice e)) (hi : sizeIs C.P e sz) : OpJ C o ev T (.rof []) T := by
  intro a w S vals bss hm h K hK Q
  have hsz := run_sizeOf (P := C.P) hi w
  have hrun : (execOp a.eval o).run C.P w = .ok (.value (.slice (some ⟨w.heap.size, 0, none⟩) 0 0)) (w.alloc (.cells #[] e)) := by
    have he : execOp a.eval o = (do let v ← Instr.buildSlice t 0 #[]; pure (Next.value v) : Sem Next) := by simp [execOp, ho]
    rw [he]
    simp [Instr.buildSlice, run_underlying ht, hsz, newRow, Instr.fill, Array.range_zero']
  have hk : Kept (fun _ => True) w (w.alloc (.cells #[] e)) := (Kept.refl _ _).alloc _
  unfold Oper.wp
  rw [hrun, Oper.upon_value]
  refine hK _ _ _ _ _ (hm.grow hk) (Follows.kept hk (fun _ _ _ => trivial) (fun _ h => h)) ?_
  exact Rep.rof (es := []) (us := []) (sz := sz) (by simp [maxLen]) (by simp) (fun h => absurd h (by simp)) rfl (by simp)
/-- Something is appended to an empty slice without room. -/
theorem op_app_z {t e : TypeId} {y s : Operand} {z : Value} {sz b : Nat} {rows : List (List AV)} {sv : AV} (ho : o.op = .call { callee := .builtin .append, args := #[y, s], argTypes := #[t, t] }) (hy : ev y = .rof [] ∨ ∃ A, ev y = .v (.slice A 0 0)) (hs : ev s = sv) (hsrc : Src T sv rows)
    (ht : C.P.underlying t = some (.slice e)) (hz : zeroIs C.P e z sz b) (h0 : 0 < sz) (hsz : ∀ x ∈ rows, x.length = sz) (hb : rows.length * b ≤ 140737488355328) (hb0 : 0 < b) (hrp : 0 < rows.length) {n : Nat} (hn : rows.length = n) :
    OpJ C o ev T (.sl T.slots.length T.ep 0 n) (pushT T (.own e rows)) := by
  intro a w S vals bss hm h K hK Q
  have h1 := h y (by simp [ho, Op.operands, Call.operands])
  have h2 := h s (by simp [ho, Op.operands, Call.operands])
  rw [hs] at h2
  obtain ⟨A, c, us, sz', e1, h3, h4, h5, h6, h7⟩ := src_cells hm hsrc h2
  obtain ⟨A0, e2⟩ : ∃ A0, a.eval y = .slice A0 0 0 := by
    rcases hy with hy | ⟨A0, hy⟩
    · rw [hy] at h1
      obtain ⟨-, A0, sz0, us0, e2, -⟩ := (show Rep C.P S w [] (a.eval y) (.rof []) from h1).rof_inv
      exact ⟨A0, e2⟩
    · rw [hy] at h1
      exact ⟨A0, h1.v⟩
  have hmax : rows.length ≤ maxLen := by
    have := Nat.le_mul_of_pos_right rows.length hb0
    unfold maxLen
    omega
  have hfr := flat_len hsz
  have husl : us.length = rows.length * sz := by rw [h6.1, hfr]
  obtain ⟨g, oo, rfl, hcell⟩ := h7 (by rw [husl]; exact Nat.mul_pos hrp h0)
  obtain ⟨hzi, hz2, hz3⟩ := id hz
  obtain ⟨i, hii, hz0, hz1, hz4⟩ := info_parts hzi
  have key : ∃ v' w', (Builtin.append_ #[t, t] o.type #[.slice A0 0 0, .slice (some ⟨g, oo, none⟩) rows.length c]).run C.P w = .ok v' w' ∧ w'.ownsRow w.heap.size e sz v' (0 + rows.length) ([] ++ us) ∧ Kept (fun _ => True) w w' := by
    cases A0 with
    | some b0 =>
      obtain ⟨v', w', hrun, ho', hg⟩ := run_append_arg_grows (P := C.P) w t o.type e i z sz b ht hii hz0 hz1 hz4 hz2 h0 b0 0 0 [] (by simp) (fun j u hu => by simp at hu) ⟨g, oo, none⟩ rows.length c us husl (fun j u hu => by rw [add_off]; exact hcell j u hu) (by omega) (by rw [Nat.zero_add]; exact hmax) (by rw [Nat.zero_add]; exact hb)
      exact ⟨v', w', hrun, ho', (Kept.refl _ _).grown hg (by simp)⟩
    | none =>
      obtain ⟨v', w', hrun, ho', hg, -, -⟩ := run_append_own_at (P := C.P) w w.heap.size t o.type e i z sz b ht hii hz0 hz1 hz4 hz2 h0 (.slice none 0 0) 0 [] ⟨by simp, .inl ⟨rfl, rfl⟩⟩ ⟨g, oo, none⟩ rows.length c us husl (fun j u hu => by rw [add_off]; exact hcell j u hu)
        (fun u hu => by
          obtain ⟨q, hq, rfl⟩ := List.getElem_of_mem hu
          exact (h6.2 q _ (rows.flatten[q]'(by rw [← h6.1]; exact hq)) (List.getElem?_eq_getElem _) (List.getElem?_eq_getElem _)).one) (by omega) (by rw [Nat.zero_add]; exact hb) (Nat.le_refl _)
      exact ⟨v', w', hrun, ho', (Kept.refl _ _).grown hg fun k hk => by simp [Value.ownBlock] at hk⟩
  obtain ⟨v', w', hrun, hown, hk⟩ := key
  rw [Nat.zero_add, List.nil_append] at hown
  have hup : ∀ {u : Value} {x : AV}, Rep C.P S w [] u x → Rep C.P S w' [] u x := fun h => h.kept hk (fun _ _ _ => trivial) (by simp)
  have hrep' : Rep C.P S w' (v'.ownBlock.toList ++ (List.replicate us.length ([] : List Nat)).flatten) v' (.own e rows) := by
    refine Rep.own hz.size hsz ⟨hown.1, hown.2.imp id fun ⟨g, cap, cur, q1, q2, q3⟩ => ⟨g, cap, cur, q1, Nat.zero_le _, q3⟩⟩ h6.1 (by simp) fun i u x bs hu hx hb => ?_
    have : bs = [] := by rw [List.getElem?_replicate] at hb; split at hb <;> simp_all
    subst this
    exact hup (h6.2 i u x hu hx)
  have hnil : (List.replicate us.length ([] : List Nat)).flatten = [] := by simp
  rw [hnil, List.append_nil] at hrep'
  obtain ⟨hm', hf⟩ := hm.push hk hrep' (by cases v'.ownBlock <;> simp) fun q hq => by
    rcases hown.2 with ⟨rfl, h9⟩ | ⟨g1, cap, cur, hv, q1, q2, q3, q4, q5⟩
    · simp [Value.ownBlock] at hq
    · rw [hv] at hq
      simp [Value.ownBlock] at hq
      omega
  unfold Oper.wp execOp
  simp only [ho, resolve, invoke, builtin, Sem.run_bind, Sem.run_pure, Result.andThen_ok, List.map_toArray, List.map_cons, List.map_nil, e2, e1, hrun]
  subst hn
  exact hK v' _ _ _ _ hm' hf (push_sl hm.nv hrep')
/-- append([]T{}, s...) into the reserved slot r -/
theorem op_app_e {t e : TypeId} {y s : Operand} {z : Value} {sz b : Nat} {rows : List (List AV)} {sv : AV} {k0 : Nat} (r : Nat) (hT : T.slots[r]? = some (k0, .any)) (ho : o.op = .call { callee := .builtin .append, args := #[y, s], argTypes := #[t, t] }) (hy : ev y = .rof []) (hs : ev s = sv) (hsrc : Src T sv rows)
    (ht : C.P.underlying t = some (.slice e)) (hz : zeroIs C.P e z sz b) (h0 : 0 < sz) (hsz : ∀ x ∈ rows, x.length = sz) (hb : rows.length * b ≤ 140737488355328) (hb0 : 0 < b) {n : Nat} (hn : rows.length = n) :
    OpX C o ev T fun x T' => ∃ A c, (0 < n → ∃ g : Nat, A = some ⟨g, 0, none⟩) ∧ (n = 0 → c = 0) ∧ x = .v (.slice A n c) ∧ T' = ⟨T.slots.set r (T.ep, nmE (.slice A n c) e rows), T.ep + 1⟩ := by
  by_cases hrows : rows.length = 0
  · intro a w S vals bss hm h K hK Q
    have h1 := h y (by simp [ho, Op.operands, Call.operands])
    have h2 := h s (by simp [ho, Op.operands, Call.operands])
    rw [hs] at h2
    rw [hy] at h1
    obtain ⟨A, c, us, sz', e1, h3, h4, h5, h6, h7⟩ := src_cells hm hsrc h2
    obtain ⟨-, A0, sz0, us0, e2, -⟩ := (show Rep C.P S w [] (a.eval y) (.rof []) from h1).rof_inv
    have hrun := run_app_none_ (P := C.P) w t o.type e ht hz.size A0 A 0 0 c (Nat.le_refl _)
    obtain ⟨v, bs, hv, hb', hrep⟩ := hm.slot hT
    obtain ⟨hm1, hf1⟩ := hm.set (k' := T.ep) (ep' := T.ep + 1) hT hv hb' (Kept.refl _ w) hrep (hm.nodup r bs hb') (fun b h => .inl h) (.inr ⟨rfl, rfl⟩)
    unfold Oper.wp execOp
    rw [hrows] at e1
    simp only [ho, resolve, invoke, builtin, Sem.run_bind, Sem.run_pure, Result.andThen_ok, List.map_toArray, List.map_cons, List.map_nil, e2, e1, List.length_nil, hrun]
    refine hK (.v (.slice A0 0 0)) ⟨T.slots.set r (T.ep, .any), T.ep + 1⟩ ⟨A0, 0, fun h => by omega, fun _ => rfl, by rw [← hn, hrows], by rw [nmE_nil hrows]⟩ _ w S _ _ hm1 hf1 (TmpOK.v_ rfl)
  · have hj := (op_app_z (C := C) (T := T) ho (.inl hy) hs hsrc ht hz h0 hsz hb hb0 (by omega) hn).at r hT rfl
    have hrl : r < T.slots.length := (List.getElem?_eq_some_iff.1 hT).1
    have hx := OpJ.nmS hj (e := e) (es := rows) (by rw [getElem?_set_ _ _ _ _ hrl, if_pos rfl]) hn.symm
    intro a w S vals bss hm h K hK Q
    refine hx a w S vals bss hm h K (fun x T' hp => ?_) Q
    obtain ⟨u, hu, rfl, rfl⟩ := hp
    obtain ⟨g, c, rfl⟩ := hu (by omega)
    refine hK _ _ ⟨some ⟨g, 0, none⟩, c, fun _ => ⟨g, rfl⟩, fun h => by omega, rfl, ?_⟩
    rw [nmE_pos (by omega), List.set_set]
end
section
variable {C : Cx} {σ : Sta}
/-- A cell that holds an empty slice. -/
theorem Gh.cell0 {e : TypeId} {es : List (List AV)} {row : List AV} {r k c : Nat} {A : Option Addr} (i j : Nat) (hT : σ.T.slots[r]? = some (k, .own e es)) (hrow : es[i]? = some row) (hx : row[j]? = some (.v (.slice A 0 c))) (hc : c ≤ maxLen)
    {es2 : List (List AV)} (he2 : es.set i (row.set j (.ro [])) = es2) : Gh C σ ⟨σ.env, ⟨σ.T.slots.set r (k, .own e es2), σ.T.ep⟩, σ.n⟩ := by
  subst he2
  intro a w ⟨hd, hn, S, vals, bss, hm, he⟩
  obtain ⟨v, bs, hv, hb, hrep⟩ := hm.slot hT
  have hjl : j < row.length := (List.getElem?_eq_some_iff.1 hx).1
  obtain ⟨us, sz, bss1, rfl, hi, hsz, hown, hul, hbl, hcc⟩ := hrep.own_inv
  have hrl2 := hsz row (List.mem_of_getElem? hrow)
  have hf := flat_at hsz hrow hx
  have hlt : i * sz + j < us.length := by rw [hul]; exact (List.getElem?_eq_some_iff.1 hf).1
  have h1 := List.getElem?_eq_getElem hlt
  have h2 := List.getElem?_eq_getElem (l := bss1) (by rw [hbl]; exact hlt)
  have hcell := hcc _ _ _ _ h1 hf h2
  have hrep' : Rep C.P S w (v.ownBlock.toList ++ bss1.flatten) v (.own e (es.set i (row.set j (.ro [])))) := by
    refine Rep.own (us := us) hi (fun x hx' => ?_) (by rw [List.length_set]; exact hown) (by rw [set_flat hsz hrow hjl, List.length_set]; exact hul) hbl fun p u1 x b q1 q2 q3 => ?_
    · rcases List.mem_or_eq_of_mem_set hx' with h' | h'
      · exact hsz x h'
      · rw [h', List.length_set]; exact hrl2
    · rw [set_flat hsz hrow hjl, List.getElem?_set] at q2
      by_cases hp : i * sz + j = p
      · subst hp
        rw [if_pos rfl, if_pos (by rw [← hul]; exact hlt)] at q2
        injection q2 with q2
        subst q2
        rw [h1] at q1; injection q1 with q1; subst q1
        rw [h2] at q3; injection q3 with q3; subst q3
        rw [hcell.v_inv.2.1, hcell.v_inv.1]
        exact Rep.ro (es := []) (us := []) (sz := 0) (Nat.zero_le _) hc (by simp) (fun h => absurd h (by simp)) rfl (by simp)
      · rw [if_neg hp] at q2
        exact hcc p u1 x b q1 q2 q3
  obtain ⟨hm', hf'⟩ := hm.set hT hv hb (Kept.refl _ _) hrep' (hm.nodup r _ hb) (fun b h => .inl h) (.inl ⟨rfl, rfl, rfl, fun e' es2 h => (by injection h with h1 h2; subst h1; subst h2; exact ⟨es, rfl, (List.length_set ..).symm⟩), fun b ks h => (by cases h)⟩)
  exact ⟨hd, hn, S, _, _, hm', fun t ht => TmpOK.follows hf' (he t ht)⟩
/-- A slice that may be empty goes back into its cell, which is only read from now on. -/
theorem Gh.nestE {e e' : TypeId} {es rows : List (List AV)} {row : List AV} {r k q kq n c : Nat} {A : Option Addr} (i j : Nat) (hT : σ.T.slots[r]? = some (k, .own e es)) (hrow : es[i]? = some row) (hx : row[j]? = some (.v (.slice A n c))) (hq : σ.T.slots[q]? = some (kq, nmE (.slice A n c) e' rows)) (hrq : r ≠ q) (hn : n = rows.length) (h0 : n = 0 → c = 0)
    (hfl : ∀ x ∈ rows, ∀ y ∈ x, flatA y = true) {es2 : List (List AV)} (he2 : es.set i (row.set j (.ro rows)) = es2) : Gh C σ ⟨σ.env, ⟨(σ.T.slots.set q (kq, .any)).set r (k, .own e es2), σ.T.ep⟩, σ.n⟩ := by
  have hql : q < σ.T.slots.length := (List.getElem?_eq_some_iff.1 hq).1
  have hrl : r < σ.T.slots.length := (List.getElem?_eq_some_iff.1 hT).1
  have hil : i < es.length := (List.getElem?_eq_some_iff.1 hrow).1
  have hjl : j < row.length := (List.getElem?_eq_some_iff.1 hx).1
  by_cases hr : rows.length = 0
  · obtain rfl : rows = [] := List.eq_nil_of_length_eq_zero hr
    rw [nmE_nil rfl] at hq
    have hn0 : n = 0 := hn
    subst hn0
    have hset : σ.T.slots.set q (kq, AV.any) = σ.T.slots := set_same hq
    rw [hset]
    exact Gh.cell0 i j hT hrow hx (by rw [h0 rfl]; exact Nat.zero_le _) he2
  · rw [nmE_pos (by omega)] at hq
    refine (Gh.nest i j hT hrow hx hq hrq rfl).trans ?_
    have e1 : ((σ.T.slots.set q (kq, AV.any)).set r (k, .own e (es.set i (row.set j (.own e' rows)))))[r]? = some (k, .own e (es.set i (row.set j (.own e' rows)))) := by
      rw [getElem?_set_ _ _ _ _ (by rw [List.length_set]; exact hrl), if_pos rfl]
    have e2 : (es.set i (row.set j (.own e' rows)))[i]? = some (row.set j (.own e' rows)) := by rw [getElem?_set_ _ _ _ _ hil, if_pos rfl]
    have e3 : (row.set j (AV.own e' rows))[j]? = some (.own e' rows) := by rw [getElem?_set_ _ _ _ _ hjl, if_pos rfl]
    have := Gh.freezeC (C := C) (σ := ⟨σ.env, ⟨(σ.T.slots.set q (kq, .any)).set r (k, .own e (es.set i (row.set j (.own e' rows)))), σ.T.ep⟩, σ.n⟩) i j e1 e2 e3 hfl (es2 := es2) (by rw [List.set_set, List.set_set]; exact he2)
    simpa [List.set_set] using this
end
end Go.Proofs.Ytjgbbffcjbmjmaa
