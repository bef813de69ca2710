import Derived.Test.YtjgbbffcjbmjmaaAbA
namespace Go.Proofs.Ytjgbbffcjbmjmaa
open Go.RowKit
set_option linter.unusedSimpArgs false
set_option linter.unusedVariables false

section
variable {C : Cx} {o : Oper} {ev : Operand → AV} {T : Sl}

/-- y is a slice that can be read: its rows. -/
inductive Src (T : Sl) : AV → List (List AV) → Prop
  | ro {es} : Src T (.ro es) es
  | rof {es} : Src T (.rof es) es
  | nil : Src T (.v (.slice none 0 0)) []
  | sl {r k off len e es rows} (hT : T.slots[r]? = some (k, .own e es)) (hr : ((es.drop off).take len).map (·.map ldc) = rows) : Src T (.sl r k off len) rows
theorem ldc_flatten (es : List (List AV)) : (es.map (·.map ldc)).flatten = es.flatten.map ldc := by
  rw [List.map_flatten]
theorem src_cells {S : Nat → Prop} {vals : List Value} {bss : List (List Nat)} {w : World} (hm : Mem C T S vals bss w) {y : AV} {rows : List (List AV)} (h : Src T y rows) {u : Value} (hu : TmpOK C.P S w T vals u y) :
    ∃ A c us sz, u = .slice A rows.length c ∧ (∀ r ∈ rows, r.length = sz) ∧ rows.length ≤ c ∧ c ≤ maxLen ∧ RL (Rep C.P S w []) us rows.flatten ∧ (0 < us.length → ∃ g o, A = some ⟨g, o, none⟩ ∧ ∀ j u, us[j]? = some u → w.cell? ⟨g, o + j, none⟩ = some u) := by
  cases h with
  | ro =>
    obtain ⟨-, A, c, sz, us, e, h1, h2, h3, h4, h5, h6⟩ := hu.ro.ro_inv
    exact ⟨A, c, us, sz, e, h3, h1, h2, ⟨h5, h6⟩, fun hn => by obtain ⟨g, o, e, _, hc⟩ := h4 hn; exact ⟨g, o, e, hc⟩⟩
  | rof =>
    obtain ⟨-, A, sz, us, e, h2, h3, h4, h5, h6⟩ := (show Rep C.P S w [] u (.rof rows) from hu).rof_inv
    exact ⟨A, _, us, sz, e, h3, Nat.le_refl _, h2, ⟨h5, h6⟩, fun hn => by obtain ⟨g, o, e, _, hc⟩ := h4 hn; exact ⟨g, o, e, hc⟩⟩
  | nil => exact ⟨none, 0, [], 0, hu.v, by simp, Nat.le_refl _, by unfold maxLen; simp, RL.nil, fun h => by simp at h⟩
  | sl hT hr =>
    rename_i r k off len e es
    obtain ⟨v, bs, hv, hb, hrep⟩ := hm.slot hT
    obtain ⟨us, sz, bss', -, hi, hsz, hown, hul, hbl, hc⟩ := hrep.own_inv
    obtain ⟨hol, A, nn, cap, hve, h3, h4, h5, h6⟩ := hu.2.2 e es v sz hT hv hi
    have hlen : rows.length = len := by rw [← hr]; simp; omega
    have hflat : rows.flatten = ((es.flatten.drop (off * sz)).take (len * sz)).map ldc := by rw [← hr, ldc_flatten, flat_cut hsz]
    have hfl := flat_len hsz
    have hrl : RL (Rep C.P S w []) ((us.drop (off * sz)).take (len * sz)) rows.flatten := by
      rw [hflat]
      refine ⟨by rw [List.length_map, List.length_take, List.length_take, List.length_drop, List.length_drop, hul], fun i u x hu hx => ?_⟩
      rw [List.getElem?_map, List.getElem?_take] at hx
      rw [List.getElem?_take] at hu
      split at hu
      · rename_i hlt
        rw [if_pos hlt, List.getElem?_drop] at hx
        rw [List.getElem?_drop] at hu
        cases hq : es.flatten[off * sz + i]? with
        | none => rw [hq] at hx; cases hx
        | some x0 =>
          rw [hq] at hx
          simp at hx
          subst hx
          have hlt2 : off * sz + i < bss'.length := by rw [hbl]; exact (List.getElem?_eq_some_iff.1 hu).1
          exact (hc _ u x0 _ hu hq (List.getElem?_eq_getElem hlt2)).ldc
      · cases hu
    have hread : 0 < ((us.drop (off * sz)).take (len * sz)).length → ∃ g o, ∀ A', (off = 0 → A' = A) → (∀ g, 0 < off → A = some ⟨g, 0, none⟩ → A' = some ⟨g, off * sz, none⟩) → A' = some ⟨g, o, none⟩ ∧ ∀ j u, ((us.drop (off * sz)).take (len * sz))[j]? = some u → w.cell? ⟨g, o + j, none⟩ = some u := fun hn => by
      rcases hown.2 with ⟨hnil, h0⟩ | ⟨g, cap', cur, hcap, -, hg, -⟩
      · exfalso
        have : es = [] := List.eq_nil_of_length_eq_zero h0
        rw [this] at hul
        simp at hul
        rw [hul] at hn
        simp at hn
      · rw [hve] at hcap
        injection hcap with e1 e2 e3
        refine ⟨g, off * sz, fun A' ha hb' => ⟨?_, fun j u hu => ?_⟩⟩
        · rcases Nat.eq_zero_or_pos off with h0 | h0
          · rw [ha h0, e1, h0, Nat.zero_mul]
          · exact hb' g h0 e1
        · rw [List.getElem?_take] at hu
          split at hu
          · rw [List.getElem?_drop] at hu
            have := hown.cells (g := g) (by rw [hve, e1]; rfl) _ _ hu
            rw [add_off, Nat.zero_add] at this
            exact this
          · cases hu
    rw [hlen]
    have hrs : ∀ r ∈ rows, r.length = sz := fun r hr' => by
      rw [← hr] at hr'
      obtain ⟨x, hx, rfl⟩ := List.mem_map.1 hr'
      rw [List.length_map]
      exact hsz x (List.mem_of_mem_drop (List.mem_of_mem_take hx))
    rcases h6 with ⟨h7, h8⟩ | ⟨A', -, h7, h8⟩
    · refine ⟨A, cap, _, sz, h8, hrs, by omega, h5, hrl, fun hn => ?_⟩
      obtain ⟨g, o, hgo⟩ := hread hn
      obtain ⟨h9, h10⟩ := hgo A (fun _ => rfl) (fun g h0 _ => by omega)
      exact ⟨g, o, h9, h10⟩
    · refine ⟨A', cap - off, _, sz, h7, hrs, by omega, by omega, hrl, fun hn => ?_⟩
      have hlp : 0 < len := by
        rcases Nat.eq_zero_or_pos len with h | h
        · rw [h] at hn; simp at hn
        · exact h
      obtain ⟨g', hA, hA'⟩ := h8 hlp
      obtain ⟨g, o, hgo⟩ := hread hn
      obtain ⟨h9, h10⟩ := hgo A' (fun h0 => by rw [hA, hA', h0, Nat.zero_mul]) (fun g2 h0 hh => by rw [hA] at hh; injection hh with hh; injection hh with hh; rw [hA', hh])
      exact ⟨g, o, h9, h10⟩

theorem run_append_of_nil {P : Program} (w : World) (t ty e : TypeId) {size : Nat} (ht : P.underlying t = some (.slice e)) (hs : sizeIs P e size)
    (v : Value) (n : Nat) (xs : List Value) (hown : w.ownsRow 0 e size v n xs) (A : Option Addr) (c : Nat) (hA : A = none ∨ ∃ a, A = some a) : (Builtin.append_ #[t, t] ty #[v, .slice A 0 c]).run P w = .ok v w := by
  have hf : (Builtin.firstCells size 0 (.slice A 0 c)).run P w = .ok #[] w := by
    rcases hA with rfl | ⟨a, rfl⟩
    · simp [Builtin.firstCells]
    · have := run_loadCells_list (P := P) w a [] (by simp)
      simp only [List.length_nil] at this
      simp [Builtin.firstCells, this]
  have h1 := run_sizeOf hs w
  rcases hown.2 with ⟨rfl, rfl⟩ | ⟨g, cap, cur, rfl, _, _, hnc, _⟩
  · simp [Builtin.append_, run_underlying ht, h1, Builtin.lenOf, hf]
  · simp [Builtin.append_, run_underlying ht, h1, Builtin.lenOf, hf, hnc, storeCells]
/-- append onto an owned row, or onto nil. -/
theorem run_app {P : Program} {S : Nat → Prop} {w : World} {t e ty : TypeId} {z : Value} {sz b : Nat} (ht : P.underlying t = some (.slice e)) (hz : zeroIs P e z sz b) (h0 : 0 < sz) {bs : List Nat} {v : Value} {es rows : List (List AV)}
    (h : Rep P S w bs v (.own e es)) (hnd : bs.Nodup) (hap : ∀ q ∈ bs, ¬ S q) (hrs : ∀ r ∈ rows, r.length = sz) {A : Option Addr} {c : Nat} {us : List Value} (hr : RL (Rep P S w []) us rows.flatten) (hc : 0 < us.length → ∃ g o, A = some ⟨g, o, none⟩ ∧ ∀ j u, us[j]? = some u → w.cell? ⟨g, o + j, none⟩ = some u)
    (hlen : (es.length + rows.length) * b ≤ 140737488355328) (hml : es.length + rows.length ≤ maxLen) :
    ∃ v' w' bs', (Builtin.append_ #[t, t] ty #[v, .slice A rows.length c]).run P w = .ok v' w' ∧ Rep P S w' bs' v' (.own e (es ++ rows)) ∧ bs'.Nodup ∧ (∀ q ∈ bs', q ∈ bs ∨ w.heap.size ≤ q) ∧ Kept (fun q => q ∉ bs) w w' := by
  obtain ⟨us0, sz0, bss, rfl, hi, hsz, hown, hul, hbl, hcc⟩ := h.own_inv
  have := hi.inj hz.size
  subst this
  have hfl := flat_len hsz
  have hfr := flat_len hrs
  by_cases hn : rows = []
  · subst hn
    have hu0 : us = [] := List.eq_nil_of_length_eq_zero (by rw [hr.1]; rfl)
    refine ⟨v, w, _, run_append_of_nil w t ty e ht hz.size v _ us0 hown A c (by cases A with | none => exact .inl rfl | some a => exact .inr ⟨a, rfl⟩), by rw [List.append_nil]; exact h, hnd, fun q hq => .inl hq, Kept.refl _ _⟩
  have hrp : 0 < rows.length := by
    rcases Nat.eq_zero_or_pos rows.length with h | h
    · exact absurd (List.eq_nil_of_length_eq_zero h) hn
    · exact h
  have husl : us.length = rows.length * sz0 := by rw [hr.1, hfr]
  obtain ⟨g, oo, rfl, hcell⟩ := hc (by rw [husl]; exact Nat.mul_pos hrp h0)
  obtain ⟨hzi, hz2, hz3⟩ := hz
  obtain ⟨i, hii, hz0, hz1, hz4⟩ := info_parts hzi
  obtain ⟨v', w', hrun, ho, hg, -, hb'⟩ := run_append_own_at (P := P) w 0 t ty e i z sz0 b ht hii hz0 hz1 hz4 hz2 h0 v es.length us0 hown ⟨g, oo, none⟩ rows.length c us husl (fun j u hu => by rw [add_off]; exact hcell j u hu)
    (fun u hu => by
      obtain ⟨q, hq, rfl⟩ := List.getElem_of_mem hu
      exact (hr.2 q _ (rows.flatten[q]'(by rw [← hr.1]; exact hq)) (List.getElem?_eq_getElem _) (List.getElem?_eq_getElem _)).one) hml hlen (Nat.zero_le _)
  have hk : Kept (fun q => some q ≠ v.ownBlock) w w' := (Kept.refl _ _).grown hg fun k hk => .inl fun h => h hk.symm
  rw [List.nodup_append] at hnd
  obtain ⟨nd1, nd2, nd3⟩ := hnd
  have hvS : ∀ k, k < w.heap.size → S k → some k ≠ v.ownBlock := fun k _ hk he => hap k (List.mem_append_left _ (by rw [← he]; simp)) hk
  refine ⟨v', w', v'.ownBlock.toList ++ (bss ++ List.replicate us.length []).flatten, hrun, ?_, ?_, ?_, ?_⟩
  · refine Rep.own (us := us0 ++ us) hi ?_ (by rw [List.length_append]; exact ho) (by simp [hul, hr.1]) (by simp [hbl]) fun q u x bq h1 h2 h3 => ?_
    · intro x hx
      rcases List.mem_append.1 hx with h | h
      · exact hsz x h
      · exact hrs x h
    · rw [List.flatten_append] at h2
      by_cases hq : q < us0.length
      · rw [List.getElem?_append_left hq] at h1
        rw [List.getElem?_append_left (by rw [← hul]; exact hq)] at h2
        rw [List.getElem?_append_left (by rw [hbl]; exact hq)] at h3
        refine (hcc q u x bq h1 h2 h3).kept hk hvS fun b' hb' he => ?_
        exact nd3 b' (by rw [← he]; simp) b' (List.mem_flatten.2 ⟨bq, List.mem_of_getElem? h3, hb'⟩) rfl
      · rw [List.getElem?_append_right (by omega)] at h1
        rw [List.getElem?_append_right (by rw [← hul]; omega), ← hul] at h2
        rw [List.getElem?_append_right (by rw [hbl]; omega), hbl] at h3
        have : bq = [] := by rw [List.getElem?_replicate] at h3; split at h3 <;> simp_all
        subst this
        exact (hr.2 _ u x h1 h2).kept hk hvS (by simp)
  · rw [List.flatten_append, List.flatten_replicate_nil, List.append_nil, List.nodup_append]
    refine ⟨by cases v'.ownBlock <;> simp, nd2, fun a ha b hb he => ?_⟩
    subst he
    rcases hb' with h1 | h1
    · rw [h1] at ha; exact nd3 a ha a hb rfl
    · rw [h1] at ha
      simp at ha
      subst ha
      have := h.lt _ (List.mem_append_right _ hb)
      omega
  · intro q hq
    rw [List.flatten_append, List.flatten_replicate_nil, List.append_nil] at hq
    rcases List.mem_append.1 hq with h2 | h2
    · rcases hb' with h1 | h1
      · rw [h1] at h2; exact .inl (List.mem_append_left _ h2)
      · rw [h1] at h2; simp at h2; right; omega
    · exact .inl (List.mem_append_right _ h2)
  · exact hk.mono fun k _ hk' he => hk' (List.mem_append_left _ (by rw [← he]; simp))
/-- append onto a slot. -/
theorem op_app {t e : TypeId} {y s : Operand} {z : Value} {sz b : Nat} {r k : Nat} {es rows : List (List AV)} {sv : AV} (ho : o.op = .call { callee := .builtin .append, args := #[y, s], argTypes := #[t, t] }) {len : Nat} (hy : ev y = .sl r k 0 len) (hs : ev s = sv) (hT : T.slots[r]? = some (k, .own e es)) (hl : len = es.length) (hsrc : Src T sv rows)
    (ht : C.P.underlying t = some (.slice e)) (hz : zeroIs C.P e z sz b) (h0 : 0 < sz) (hsz : ∀ x ∈ rows, x.length = sz) (hb : (es.length + rows.length) * b ≤ 140737488355328) (hb0 : 0 < b) {es' : List (List AV)} (he : es ++ rows = es') {n : Nat} (hn : es.length + rows.length = n) :
    OpJ C o ev T (.sl r T.ep 0 n) ⟨T.slots.set r (T.ep, .own e es'), T.ep + 1⟩ := by
  intro a w S vals bss hm h K hK Q
  have h1 := h y (by simp [ho, Op.operands, Call.operands])
  have h2 := h s (by simp [ho, Op.operands, Call.operands])
  rw [hy] at h1
  rw [hs] at h2
  obtain ⟨v, bs, hv, hbb, hrep⟩ := hm.slot hT
  obtain ⟨A, c, us, sz', e1, h3, h4, h5, h6, h7⟩ := src_cells hm hsrc h2
  have hmax : es.length + rows.length ≤ maxLen := by
    have := Nat.le_mul_of_pos_right (es.length + rows.length) hb0
    unfold maxLen
    omega
  obtain ⟨v', w', bs', hrun, hrep', hnd, hsub, hk⟩ := run_app (P := C.P) (ty := o.type) ht hz h0 hrep (hm.nodup r bs hbb) (hm.apart r bs hbb) hsz (A := A) (c := c) h6 h7 hb hmax
  obtain ⟨us0, sz0, bss0, -, hi0, hsz0, hown, -⟩ := hrep.own_inv
  obtain ⟨hol, A0, nn, cap, hve, g3, g4, g5, g6⟩ := h1.2.2 e es v sz0 hT hv hi0
  have hyv : a.eval y = v := by
    rcases g6 with ⟨-, h8⟩ | ⟨A', h8, _⟩
    · rw [h8, hve, hl]
      rcases hown.2 with ⟨hnil, h0'⟩ | ⟨g, cap', cur, hcap, -⟩
      · rw [hve] at hnil; injection hnil with q1 q2 q3; rw [q2, h0']
      · rw [hve] at hcap; injection hcap with q1 q2 q3; rw [q2]
    · omega
  rw [he] at hrep'
  obtain ⟨hm', hf⟩ := hm.set (k' := T.ep) (ep' := T.ep + 1) hT hv hbb hk hrep' hnd hsub (.inr ⟨rfl, rfl⟩)
  unfold Oper.wp execOp
  simp only [ho, resolve, invoke, builtin, Sem.run_bind, Sem.run_pure, Result.andThen_ok, List.map_toArray, List.map_cons, List.map_nil, hyv, e1, hrun]
  refine hK v' _ _ _ _ hm' hf ⟨by simp, hrep'.one, fun e2 es2 v2 sz2 q1 q2 q3 => ?_⟩
  have hrl : r < T.slots.length := (List.getElem?_eq_some_iff.1 hT).1
  have q1 : (T.slots.set r _)[r]? = _ := q1
  rw [getElem?_set_ _ _ _ _ hrl, if_pos rfl] at q1
  rw [getElem?_set_ _ _ _ _ (by rw [hm.nv]; exact hrl), if_pos rfl] at q2
  injection q1 with q1; injection q1 with _ q1; injection q1 with q1 q4
  injection q2 with q2
  subst q1; subst q2; subst q4
  obtain ⟨us1, sz1, bss1, -, hi1, hsz1, hown1, -⟩ := hrep'.own_inv
  have hel : es'.length = n := by rw [← he, List.length_append, hn]
  refine ⟨by omega, ?_⟩
  rcases hown1.2 with ⟨hnil, h0'⟩ | ⟨g, cap', cur, hcap, -, -, p1, p2, -⟩
  · exact ⟨none, 0, 0, hnil, by omega, Nat.le_refl _, by unfold maxLen; omega, .inl ⟨rfl, by rw [hnil, show n = 0 by omega]⟩⟩
  · exact ⟨_, _, _, hcap, by omega, p1, p2, .inl ⟨rfl, by rw [hcap, hel]⟩⟩
end
end Go.Proofs.Ytjgbbffcjbmjmaa
namespace Go.Proofs.Ytjgbbffcjbmjmaa
open Go.RowKit
set_option linter.unusedSimpArgs false
set_option linter.unusedVariables false

section
variable {C : Cx} {o : Oper} {ev : Operand → AV} {T : Sl}
theorem rep_nil {P : Program} {S : Nat → Prop} {w : World} {e : TypeId} {sz : Nat} (hi : sizeIs P e sz) : Rep P S w [] (.slice none 0 0) (.own e []) := by
  have := Rep.own (P := P) (S := S) (w := w) (v := .slice none 0 0) (e := e) (es := []) (us := []) (sz := sz) (bss := []) hi (by simp) (World.ownsRow_nil _ _ _ _) rfl rfl (by simp)
  exact this
/-- A slice of a new slot. -/
theorem push_sl {S S' : Nat → Prop} {vals : List Value} {w' : World} {v : Value} {bs : List Nat} {e : TypeId} {es : List (List AV)} (hnv : vals.length = T.slots.length) (hrep : Rep C.P S' w' bs v (.own e es)) : TmpOK C.P S w' (pushT T (.own e es)) (vals ++ [v]) v (.sl T.slots.length T.ep 0 es.length) := by
  refine ⟨by simp [pushT], hrep.one, fun e2 es2 v2 sz2 q1 q2 q3 => ?_⟩
  have q1 : (T.slots ++ [_])[T.slots.length]? = _ := q1
  rw [getElem?_snoc, if_neg (Nat.lt_irrefl _), if_pos rfl] at q1
  rw [getElem?_snoc, hnv, if_neg (Nat.lt_irrefl _), if_pos rfl] at q2
  injection q1 with q1; injection q1 with _ q1; injection q1 with q1 q4
  injection q2 with q2
  subst q1; subst q2; subst q4
  obtain ⟨us1, sz1, bss1, -, hi1, hsz1, hown1, -⟩ := hrep.own_inv
  refine ⟨by omega, ?_⟩
  rcases hown1.2 with ⟨hnil, h0'⟩ | ⟨g, cap', cur, hcap, -, -, p1, p2, -⟩
  · exact ⟨none, 0, 0, hnil, by omega, Nat.le_refl _, by unfold maxLen; omega, .inl ⟨rfl, by rw [hnil, h0']⟩⟩
  · exact ⟨_, _, _, hcap, by omega, p1, p2, .inl ⟨rfl, hcap⟩⟩
theorem op_app_nil {t e : TypeId} {y s : Operand} {z : Value} {sz b : Nat} {rows : List (List AV)} {sv : AV} (ho : o.op = .call { callee := .builtin .append, args := #[y, s], argTypes := #[t, t] }) (hy : ev y = .v (.slice none 0 0)) (hs : ev s = sv) (hsrc : Src T sv rows)
    (ht : C.P.underlying t = some (.slice e)) (hz : zeroIs C.P e z sz b) (h0 : 0 < sz) (hsz : ∀ x ∈ rows, x.length = sz) (hb : rows.length * b ≤ 140737488355328) (hb0 : 0 < b) {n : Nat} (hn : rows.length = n) :
    OpJ C o ev T (.sl T.slots.length T.ep 0 n) (pushT T (.own e rows)) := by
  intro a w S vals bss hm h K hK Q
  have h1 := h y (by simp [ho, Op.operands, Call.operands])
  have h2 := h s (by simp [ho, Op.operands, Call.operands])
  rw [hy] at h1
  rw [hs] at h2
  obtain ⟨A, c, us, sz', e1, h3, h4, h5, h6, h7⟩ := src_cells hm hsrc h2
  have hmax : rows.length ≤ maxLen := by
    have := Nat.le_mul_of_pos_right rows.length hb0
    unfold maxLen
    omega
  obtain ⟨v', w', bs', hrun, hrep', hnd, hsub, hk⟩ := run_app (P := C.P) (S := S) (w := w) (ty := o.type) ht hz h0 (rep_nil hz.size) (by simp) (by simp) hsz (A := A) (c := c) h6 h7 (by simpa using hb) (by simpa using hmax)
  rw [List.nil_append] at hrep'
  have hk' : Kept (fun _ => True) w w' := hk.mono fun _ _ _ => by simp
  obtain ⟨hm', hf⟩ := hm.push hk' hrep' hnd fun q hq => (hsub q hq).resolve_left (by simp)
  unfold Oper.wp execOp
  simp only [ho, resolve, invoke, builtin, Sem.run_bind, Sem.run_pure, Result.andThen_ok, List.map_toArray, List.map_cons, List.map_nil, h1.v, e1, hrun]
  subst hn
  exact hK v' _ _ _ _ hm' hf (push_sl hm.nv hrep')
theorem madeCells_rl {P : Program} {S : Nat → Prop} {w : World} {t : TypeId} {z : Value} {sz b : Nat} (hz : zeroIs P t z sz b) (n : Nat) : RL (Rep P S w []) (madeCells z.cells (n * sz)).toList (List.replicate n (z.cells.toList.map .v)).flatten := by
  have hl : (List.replicate n (z.cells.toList.map AV.v)).flatten.length = n * sz := by
    rw [flat_len (sz := sz)]
    · simp
    · intro e he; rw [List.eq_of_mem_replicate he]; simp [hz.2.1]
  refine ⟨by rw [hl]; simp [size_madeCells], fun i u x hu hx => ?_⟩
  have hi : i < n * sz := by rw [← hl]; exact (List.getElem?_eq_some_iff.1 hx).1
  have hsp : 0 < sz := by rcases Nat.eq_zero_or_pos sz with h | h <;> simp_all
  have hq : i / sz < n := by rw [Nat.div_lt_iff_lt_mul hsp]; exact hi
  have hmod := Nat.mod_lt i hsp
  have hx2 := flat_at (sz := sz) (es := List.replicate n (z.cells.toList.map AV.v)) (fun e he => by rw [List.eq_of_mem_replicate he]; simp [hz.2.1]) (i := i / sz) (row := z.cells.toList.map .v) (by simp [hq]) (j := i % sz) (x := .v z.cells[i % sz]!) (by
    rw [List.getElem?_map]
    have : i % sz < z.cells.toList.length := by simp [hz.2.1]; exact hmod
    rw [List.getElem?_eq_getElem this]
    simp only [Option.map_some]
    rw [getElem!_pos z.cells _ (by rw [hz.2.1]; exact hmod)]
    simp)
  rw [Nat.div_add_mod'] at hx2
  rw [hx2] at hx
  injection hx with hx
  subst hx
  simp only [madeCells, Array.toList_map, List.getElem?_map] at hu
  have hlt2 : i < (Array.range (n * sz)).toList.length := by simpa using hi
  rw [List.getElem?_eq_getElem hlt2] at hu
  simp only [Option.map_some, Option.some.injEq] at hu
  have e1 : (Array.range (n * sz)).toList[i] = i := by simp
  rw [e1, hz.2.1] at hu
  rw [← hu]
  refine .v ?_
  rw [getElem!_pos z.cells _ (by rw [hz.2.1]; exact hmod)]
  exact Array.all_eq_true_iff_forall_mem.1 hz.2.2 _ (Array.getElem_mem _)
theorem op_make {t e : TypeId} {y q : Operand} {z : Value} {sz b : Nat} {kl kc : IntKind} {n c : Nat} {nl nc : Int} (ho : o.op = .makeSlice t y q) (hy : ev y = .v (.int kl nl)) (hq : ev q = .v (.int kc nc)) (hnl : nl = (n : Int)) (hnc : nc = (c : Int)) (hle : n ≤ c) (ht : C.P.underlying t = some (.slice e)) (hz : zeroIs C.P e z sz b) (hb : b * c ≤ 140737488355328) (hb0 : 0 < b)
    {row : List AV} (hrow : z.cells.toList.map .v = row) : OpJ C o ev T (.sl T.slots.length T.ep 0 n) (pushT T (.own e (List.replicate n row))) := by
  intro a w S vals bss hm h K hK Q
  have h1 := h y (by simp [ho, Op.operands])
  have h2 := h q (by simp [ho, Op.operands])
  rw [hy] at h1
  rw [hq] at h2
  subst hnl; subst hnc; subst hrow
  have hcm : c ≤ maxLen := by
    have := Nat.le_mul_of_pos_left c hb0
    unfold maxLen
    omega
  obtain ⟨hzi, hz2, hz3⟩ := id hz
  obtain ⟨i, hii, hz0, hz1, hz4⟩ := info_parts hzi
  have hbc : (i.bytes : Int) * (c : Int) ≤ 281474976710656 := by
    rw [hz4, ← Int.natCast_mul]; omega
  have hrun := run_make (P := C.P) w t e i z ht hii hz0 kl kc (n : Int) (c : Int) (by omega) (by omega) hbc (by unfold maxLen at hcm; omega)
  simp only [Int.toNat_natCast, hz1] at hrun
  have hrl := madeCells_rl (P := C.P) (S := S) (w := w) hz c
  have hg : (w.alloc (.cells (madeCells z.cells (c * sz)) e)).heap[w.heap.size]? = some (.cells (madeCells z.cells (c * sz)) e (0, 0)) := heap_alloc_new w _
  have hown : (w.alloc (.cells (madeCells z.cells (c * sz)) e)).ownsRow 0 e sz (.slice (some ⟨w.heap.size, 0, none⟩) n c) n ((madeCells z.cells (c * sz)).toList.take (n * sz)) :=
    ⟨by rw [List.length_take, Array.length_toList, size_madeCells]; exact Nat.min_eq_left (Nat.mul_le_mul_right _ hle), .inr ⟨_, c, _, rfl, Nat.zero_le _, hg, hle, hcm, size_madeCells _ _, rfl⟩⟩
  have hk : Kept (fun _ => True) w (w.alloc (.cells (madeCells z.cells (c * sz)) e)) := (Kept.refl _ _).alloc _
  have hrowl : ∀ x ∈ List.replicate n (z.cells.toList.map AV.v), x.length = sz := fun x hx => by rw [List.eq_of_mem_replicate hx]; simp [hz.2.1]
  have hpart : RL (Rep C.P S w []) ((madeCells z.cells (c * sz)).toList.take (n * sz)) (List.replicate n (z.cells.toList.map AV.v)).flatten := by
    have := hrl.part 0 (n * sz)
    rw [List.drop_zero, List.drop_zero] at this
    have e1 : (List.replicate c (z.cells.toList.map AV.v)).flatten.take (n * sz) = (List.replicate n (z.cells.toList.map AV.v)).flatten := by
      have := flat_cut (sz := sz) (es := List.replicate c (z.cells.toList.map AV.v)) (fun x hx => by rw [List.eq_of_mem_replicate hx]; simp [hz.2.1]) 0 n
      rw [Nat.zero_mul, List.drop_zero, List.drop_zero] at this
      rw [← this, List.take_replicate, Nat.min_eq_left hle]
    rw [e1] at this
    exact this
  have hrep : Rep C.P S (w.alloc (.cells (madeCells z.cells (c * sz)) e)) [w.heap.size] (.slice (some ⟨w.heap.size, 0, none⟩) n c) (.own e (List.replicate n (z.cells.toList.map AV.v))) := by
    have := Rep.own (P := C.P) (S := S) (es := List.replicate n (z.cells.toList.map AV.v)) (bss := List.replicate (n * sz) []) hz.size hrowl (by rw [List.length_replicate]; exact hown) hpart.1 (by rw [hpart.1, flat_len hrowl]; simp) fun i u x bs hu hx hb => by
      have : bs = [] := by
        rw [List.getElem?_replicate] at hb
        split at hb <;> simp_all
      subst this
      exact (hpart.2 i u x hu hx).kept hk (fun _ _ _ => trivial) (by simp)
    rw [List.flatten_replicate_nil] at this
    exact this
  obtain ⟨hm', hf⟩ := hm.push hk hrep (by simp) (by simp)
  unfold Oper.wp execOp
  simp only [ho, h1.v, h2.v, Sem.run_bind, hrun, Result.andThen_ok, Sem.run_pure]
  have := push_sl (C := C) (S := S) (T := T) hm.nv hrep
  rw [List.length_replicate] at this
  exact hK _ _ _ _ _ hm' hf this

/-! ### Slices of slices -/
def bndIs (ev : Operand → AV) (q : Option Operand) (d n : Nat) : Prop := match q with | none => n = d | some y => ∃ kk, ev y = .v (.int kk (n : Int))
theorem run_bounds {P : Program} {S : Nat → Prop} {w : World} {vals : List Value} {a : Act} {lo hi : Option Operand} {l hh len cap : Nat} (b : Bool) (hl : bndIs ev lo 0 l) (hhi : bndIs ev hi len hh) (h1 : l ≤ hh) (h2 : hh ≤ cap) (ho : ∀ y, lo = some y ∨ hi = some y → TmpOK P S w T vals (a.eval y) (ev y)) (w' : World) :
    (Instr.sliceBounds b len cap (lo.map a.eval) (hi.map a.eval) none).run P w' = .ok (l, hh, cap) w' := by
  have key : ∀ (q : Option Operand) (d n : Nat), bndIs ev q d n → (∀ y, q = some y → TmpOK P S w T vals (a.eval y) (ev y)) → q.map a.eval = none ∧ n = d ∨ ∃ kk, q.map a.eval = some (.int kk (n : Int)) := by
    intro q d n hq hy
    cases q with
    | none => exact .inl ⟨rfl, hq⟩
    | some y =>
      obtain ⟨kk, hk⟩ := hq
      have := hy y rfl
      rw [hk] at this
      exact .inr ⟨kk, by rw [Option.map_some, this.v]⟩
  have hll : (l : Int) ≤ (hh : Int) := by omega
  have hhc : (hh : Int) ≤ (cap : Int) := by omega
  rcases key lo 0 l hl (fun y hy => ho y (.inl hy)) with ⟨e1, e2⟩ | ⟨k1, e1⟩ <;> rcases key hi len hh hhi (fun y hy => ho y (.inr hy)) with ⟨e3, e4⟩ | ⟨k2, e3⟩ <;> rw [e1, e3] <;> (try subst e2) <;> (try subst e4) <;> simp [Instr.sliceBounds, Instr.sliceBound, asIntOf, h1, h2, Nat.not_lt.2 h1, Nat.not_lt.2 h2]
theorem run_slice_ {P : Program} {t e : TypeId} {sz l hh len cap : Nat} {A : Option Addr} {lo hi mx : Option Value} {m : Nat} (ht : P.underlying t = some (.slice e)) (hs : sizeIs P e sz) (w : World) (hb : (Instr.sliceBounds true len cap lo hi mx).run P w = .ok (l, hh, m) w) :
    (Instr.sliceAt t (.slice A len cap) lo hi mx).run P w = .ok (.slice (if m = l then A else A.map (·.add (l * sz))) (hh - l) (m - l)) w := by
  have hee := elem_eq ht
  rw [run_sliceAt_slice w t _ _ _ _ (by rw [hee]; exact ht)]
  simp [Instr.slice, run_underlying ht, hb, run_sizeOf hs]
theorem op_slice_ro {t e : TypeId} {y : Operand} {lo hi : Option Operand} {es : List (List AV)} {sz : Nat} (l hh : Nat) (ho : o.op = .slice t y lo hi none) (hy : ev y = .ro es ∨ ev y = .rof es) (hl : bndIs ev lo 0 l) (hhi : bndIs ev hi es.length hh) (h1 : l ≤ hh) (h2 : hh ≤ es.length) (ht : C.P.underlying t = some (.slice e)) (hs : sizeIs C.P e sz) (hsz : ∀ x ∈ es, x.length = sz)
    {es' : List (List AV)} (he : (es.drop l).take (hh - l) = es') : OpP C o ev T (.ro es') := by
  intro a w S vals bss hm h
  have h3 := h y (by simp [ho, Op.operands])
  have h4 : Rep C.P S w [] (a.eval y) (.ro es) := by
    rcases hy with hy | hy
    · rw [hy] at h3; exact h3
    · rw [hy] at h3; exact Rep.ro_of_rof h3
  obtain ⟨-, A, c, sz', us, e1, g1, g2, g3, g4, g5, g6⟩ := h4.ro_inv
  have hb := fun w' => run_bounds (P := C.P) (T := T) (a := a) (ev := ev) (lo := lo) (hi := hi) true hl hhi h1 (Nat.le_trans h2 g1) (fun y hy => h y (by rcases hy with rfl | rfl <;> simp [ho, Op.operands])) w'
  refine ⟨_, fun w' => by simp only [execOp, ho, e1, Sem.run_bind, Option.map_none, run_slice_ ht hs w' (hb w'), Result.andThen_ok, Sem.run_pure]; rfl, ?_⟩
  subst he
  have hlen : ((es.drop l).take (hh - l)).length = hh - l := by rw [List.length_take, List.length_drop]; omega
  have hfl := flat_len hsz
  have hle : hh * sz ≤ es.length * sz := Nat.mul_le_mul_right _ h2
  have hsub : (hh - l) * sz = hh * sz - l * sz := Nat.sub_mul _ _ _
  have hllh : l * sz ≤ hh * sz := Nat.mul_le_mul_right _ h1
  suffices hfin : Rep C.P S w [] (.slice (if c = l then A else A.map (·.add (l * sz))) ((es.drop l).take (hh - l)).length (c - l)) (.ro ((es.drop l).take (hh - l))) by rw [hlen] at hfin; exact hfin
  refine Rep.ro (c := c - l) (sz := sz) (us := (us.drop (l * sz)).take ((hh - l) * sz)) (by rw [hlen]; omega) (by omega) (fun x hx => hsz x (List.mem_of_mem_drop (List.mem_of_mem_take hx))) (fun hn => ?_) ?_ ?_
  · have hpos : 0 < us.length := by rw [List.length_take, List.length_drop] at hn; omega
    obtain ⟨g, oo, rfl, hS, hc⟩ := g4 hpos
    have hlh : l < hh := by
      rcases Nat.lt_or_ge l hh with h | h
      · exact h
      · have : hh - l = 0 := by omega
        rw [this] at hn; simp at hn
    refine ⟨g, oo + l * sz, ?_, hS, fun j u hu => ?_⟩
    · rw [if_neg (by omega), Option.map_some, add_off]
    · rw [List.getElem?_take] at hu
      split at hu
      · rw [List.getElem?_drop] at hu
        rw [Nat.add_assoc]; exact hc _ u hu
      · cases hu
  · rw [flat_cut hsz, List.length_take, List.length_take, List.length_drop, List.length_drop, g5]
  · intro i u x hu hx
    rw [flat_cut hsz, List.getElem?_take] at hx
    rw [List.getElem?_take] at hu
    split at hu
    · rename_i hlt
      rw [if_pos hlt, List.getElem?_drop] at hx
      rw [List.getElem?_drop] at hu
      exact g6 _ u x hu hx
    · cases hu
theorem op_slice_sl {t e : TypeId} {y : Operand} {lo hi : Option Operand} {es : List (List AV)} {r k off len : Nat} (l hh : Nat) (ho : o.op = .slice t y lo hi none) (hy : ev y = .sl r k off len) (hT : T.slots[r]? = some (k, .own e es)) (hl : bndIs ev lo 0 l) (hhi : bndIs ev hi len hh) (h1 : l ≤ hh) (h2 : hh ≤ len) (ht : C.P.underlying t = some (.slice e))
    {off' len' : Nat} (he : off + l = off') (he' : hh - l = len') : OpP C o ev T (.sl r k off' len') := by
  intro a w S vals bss hm h
  have h3 := h y (by simp [ho, Op.operands])
  rw [hy] at h3
  obtain ⟨v, bs, hv, hbb, hrep⟩ := hm.slot hT
  obtain ⟨us0, sz, bss0, -, hs, hsz0, hown, -⟩ := hrep.own_inv
  obtain ⟨hol, A, nn, cap, hve, g3, g4, g5, g6⟩ := h3.2.2 e es v sz hT hv hs
  obtain ⟨A', e1, hA'⟩ : ∃ A', a.eval y = .slice A' len (cap - off) ∧ ((off = 0 ∧ A' = A) ∨ (0 < off ∧ (0 < len → ∃ g, A = some ⟨g, 0, none⟩ ∧ A' = some ⟨g, off * sz, none⟩))) := by
    rcases g6 with ⟨q1, q2⟩ | ⟨A', q1, q2, q3⟩
    · exact ⟨A, by rw [q2, q1, Nat.sub_zero], .inl ⟨q1, rfl⟩⟩
    · exact ⟨A', q2, .inr ⟨q1, q3⟩⟩
  have hb := fun w' => run_bounds (P := C.P) (T := T) (a := a) (ev := ev) (lo := lo) (hi := hi) true hl hhi h1 (show hh ≤ cap - off by omega) (fun y hy => h y (by rcases hy with rfl | rfl <;> simp [ho, Op.operands])) w'
  refine ⟨_, fun w' => by simp only [execOp, ho, e1, Sem.run_bind, Option.map_none, run_slice_ ht hs w' (hb w'), Result.andThen_ok, Sem.run_pure]; rfl, ⟨h3.1, rfl, ?_⟩⟩
  intro e2 es2 v2 sz2 q1 q2 q3
  rw [hT] at q1
  injection q1 with q1; injection q1 with _ q1; injection q1 with q1 q4
  subst q1; subst q4
  rw [hv] at q2
  injection q2 with q2
  subst q2
  have := hs.inj q3
  subst this
  subst he; subst he'
  refine ⟨by omega, A, nn, cap, hve, by omega, g4, g5, ?_⟩
  rcases hA' with ⟨h0, rfl⟩ | ⟨h0, hg⟩
  · subst h0
    rcases Nat.eq_zero_or_pos l with hl0 | hl0
    · subst hl0
      left
      refine ⟨rfl, ?_⟩
      rw [Nat.zero_mul, Nat.sub_zero, Nat.sub_zero]
      have : A'.map (·.add 0) = A' := by cases A' <;> simp [Addr.add]
      rw [this]
      split <;> rfl
    · right
      refine ⟨_, by omega, by rw [Nat.sub_zero, Nat.zero_add], fun hn => ?_⟩
      rcases hown.2 with ⟨hnil, h0'⟩ | ⟨g, cap', cur, hcap, -⟩
      · omega
      · rw [hve] at hcap
        injection hcap with p1 p2 p3
        subst p1
        exact ⟨g, rfl, by rw [if_neg (by omega), Option.map_some, add_off]; simp⟩
  · right
    refine ⟨_, by omega, by rw [Nat.sub_sub], fun hn => ?_⟩
    obtain ⟨g, p1, p2⟩ := hg (by omega)
    exact ⟨g, p1, by rw [if_neg (by omega), p2, Option.map_some, add_off, Nat.add_mul]⟩
theorem op_slice_str {t : TypeId} {y : Operand} {lo hi : Option Operand} {s : ByteArray} (l hh : Nat) (ho : o.op = .slice t y lo hi none) (hy : ev y = .v (.string s)) (hl : bndIs ev lo 0 l) (hhi : bndIs ev hi s.size hh) (h1 : l ≤ hh) (h2 : hh ≤ s.size) (ht : C.P.underlying t = some .string) : OpP C o ev T (.v (.string (s.extract l hh))) := by
  intro a w S vals bss hm h
  have h3 := h y (by simp [ho, Op.operands])
  rw [hy] at h3
  have hb := fun w' => run_bounds (P := C.P) (T := T) (a := a) (ev := ev) (lo := lo) (hi := hi) false hl hhi h1 h2 (fun y hy => h y (by rcases hy with rfl | rfl <;> simp [ho, Op.operands])) w'
  refine ⟨_, fun w' => ?_, TmpOK.v_ rfl⟩
  simp only [execOp, ho, h3.v, Sem.run_bind, Option.map_none]
  rw [run_sliceAt_string w' t _ _ _ _ ht]
  simp [Instr.slice, run_underlying ht, hb]
end
end Go.Proofs.Ytjgbbffcjbmjmaa
namespace Go.Proofs.Ytjgbbffcjbmjmaa
open Go.RowKit
set_option linter.unusedSimpArgs false
set_option linter.unusedVariables false

/-! ### Regions that draw their order and only read -/
section
variable {C : Cx} {Q : Exit → Sta → Prop} {σ : Sta}
def StI (C : Cx) (σ : Sta) (a : Act) (w : World) (S : Nat → Prop) (vals : List Value) (bss : List (List Nat)) : Prop :=
  a.defers = [] ∧ a.tmps.size = σ.n ∧ Mem C σ.T S vals bss w ∧ ∀ t, t < σ.n → TmpOK C.P S w σ.T vals (a.tmps.getD t undef) (σ.env t)
def AQ (C : Cx) (ops : Array Oper) (K : Sta → Prop) (l : List Oper) (σ : Sta) : Prop :=
  ∀ a w S vals bss, StI C σ a w S vals bss → wpQuiet C.P ops (fun w' => Kept (fun _ => True) w w') (fun a' => ∃ σ', StI C σ' a' w S vals bss ∧ K σ') l a
theorem Mem.grow {T : Sl} {S : Nat → Prop} {vals : List Value} {bss : List (List Nat)} {w w' : World} (hm : Mem C T S vals bss w) (hk : Kept (fun _ => True) w w') : Mem C T S vals bss w' :=
  ⟨hm.kept.then hk (fun _ _ _ => trivial), hm.s0, hm.sub, fun k h => Nat.lt_of_lt_of_le (hm.lt k h) hk.size, hm.nv, hm.nb, fun r k x v bs h1 h2 h3 => (hm.rep r k x v bs h1 h2 h3).kept hk (fun _ _ _ => trivial) (fun _ _ => trivial), hm.nodup, hm.disj, hm.apart, hm.mine, hm.root, hm.ver, hm.pos⟩
theorem StI.grow {a : Act} {w w' : World} {S : Nat → Prop} {vals : List Value} {bss : List (List Nat)} (h : StI C σ a w S vals bss) (hk : Kept (fun _ => True) w w') : StI C σ a w' S vals bss :=
  ⟨h.1, h.2.1, h.2.2.1.grow hk, fun t ht => TmpOK.follows (Follows.kept hk (fun _ _ _ => trivial) fun _ h => h) (h.2.2.2 t ht)⟩
theorem AW.quiet {i : Nat} {l : List Oper} (hm : C.P.follows .mixedOrders = true) (hB : Region.lexB .any l.toArray = true) (h : AQ C l.toArray (Q .normal) l σ) : AW C (.region i l.toArray true) Q σ := by
  intro a w ⟨hd, hn, S, vals, bss, hme, he⟩
  have hk : Kept (fun _ => True) w { w with drawn := w.drawn + 1 } := (Kept.refl _ _).drew
  refine wp_region_quiet (C := fun w' => Kept (fun _ => True) w w') hm hB hk ?_
  have := h a w S vals bss ⟨hd, hn, hme, he⟩
  simp only
  have key : ∀ (ops : Array Oper) (l : List Oper) (a : Act) (P1 P2 : Act → Prop), (∀ a, P1 a → P2 a) → wpQuiet C.P ops (fun w' => Kept (fun _ => True) w w') P1 l a → wpQuiet C.P ops (fun w' => Kept (fun _ => True) w w') P2 l a := by
    intro ops l
    induction l with
    | nil => intro a P1 P2 h h'; exact h _ h'
    | cons o l ih =>
      intro a P1 P2 h h'
      unfold wpQuiet at h' ⊢
      split
      · rename_i hw; rw [if_pos hw] at h'; exact Oper.quiet_mono (fun a => ih a P1 P2 h) h'
      · rename_i hw; rw [if_neg hw] at h'; exact ih _ P1 P2 h h'
  refine key _ _ _ _ _ ?_ this
  rintro a' ⟨σ', hs, hq⟩ w' hk'
  obtain ⟨h1, h2, h3, h4⟩ := hs.grow hk'
  exact ⟨σ', ⟨h1, h2, S, vals, bss, h3, h4⟩, hq⟩
theorem AQ.nil {ops : Array Oper} {K : Sta → Prop} (h : K σ) : AQ C ops K [] σ := fun a w S vals bss hs => ⟨σ, hs, h⟩
theorem StI.put {a : Act} {w : World} {S : Nat → Prop} {vals : List Value} {bss : List (List Nat)} (h : StI C σ a w S vals bss) {d : Option Tmp} {v : Value} {x : AV} (hx : TmpOK C.P S w σ.T vals v x) : StI C ⟨putE σ.env d x, σ.T, σ.n⟩ (a.put d v) w S vals bss := by
  obtain ⟨hd, hn, hm, he⟩ := h
  refine ⟨by rw [Act.defers_put, hd], by rw [Act.size_put, hn], hm, fun t ht => ?_⟩
  rw [Act.getD_put]
  cases d with
  | none => rw [if_neg (by simp)]; exact he t ht
  | some d =>
    by_cases h : d = t
    · subst h
      rw [if_pos ⟨rfl, by rw [hn]; exact ht⟩]
      simpa [putE, upd] using hx
    · rw [if_neg (fun h' => h (by simpa using h'.1))]
      have : (putE σ.env (some d) x) t = σ.env t := by simp [putE, upd]; intro h'; exact absurd h'.symm h
      show TmpOK C.P S w σ.T vals (a.tmps.getD t undef) (putE σ.env (some d) x t)
      rw [this]
      exact he t ht
/-- A call that gives one value, in every world in which nothing has turned. -/
def OpQ (C : Cx) (o : Oper) (ev : Operand → AV) (T : Sl) (x : AV) : Prop :=
  ∀ (a : Act) (w : World) (S : Nat → Prop) (vals : List Value) (bss : List (List Nat)), Mem C T S vals bss w → (∀ y ∈ o.op.operands, TmpOK C.P S w T vals (a.eval y) (ev y)) →
    ∃ v, (∀ w', Kept (fun _ => True) w w' → o.quietAt C.P a (fun w'' => Kept (fun _ => True) w w'') w' v) ∧ TmpOK C.P S w T vals v x
theorem OpR.q {o : Oper} {ev : Operand → AV} {T : Sl} {x : AV} (h : OpR C o ev T x) : OpQ C o ev T x := fun a w S vals bss hm ho => by
  obtain ⟨v, hr, hx⟩ := h a w S vals bss hm ho
  refine ⟨v, fun w' hk => ?_, hx⟩
  unfold Oper.quietAt
  rw [hr w' hk]
  exact ⟨rfl, rfl⟩
theorem OpP.q {o : Oper} {ev : Operand → AV} {T : Sl} {x : AV} (h : OpP C o ev T x) : OpQ C o ev T x := h.r.q
theorem AQ.op {ops : Array Oper} {K : Sta → Prop} {o : Oper} {l : List Oper} {x : AV} (hg : o.guard = none) (ho : opsOk o σ.n = true) (hj : OpQ C o (evA σ.env) σ.T x) (h : AQ C ops K l ⟨putE σ.env o.dst x, σ.T, σ.n⟩) : AQ C ops K (o :: l) σ := by
  intro a w S vals bss hs
  obtain ⟨v, h1, h2⟩ := hj a w S vals bss hs.2.2.1 (St.ops hs.2.1 hs.2.2.2 ho)
  unfold wpQuiet
  rw [if_pos (by simp [Region.wanted, hg])]
  exact ⟨v, h1, h _ _ _ _ _ (hs.put h2)⟩
theorem StI.st {a : Act} {w : World} {S : Nat → Prop} {vals : List Value} {bss : List (List Nat)} (h : StI C σ a w S vals bss) : St C σ a w := ⟨h.1, h.2.1, S, vals, bss, h.2.2.1, h.2.2.2⟩
theorem AQ.yes {ops : Array Oper} {K : Sta → Prop} {o o' : Oper} {l : List Oper} {x : AV} {g d : Nat} {b : Bool} (hg : o.guard = some (g, b)) (ho' : ops[g]? = some o') (hd : o'.dst = some d) (hdn : d < σ.n) (hv : σ.env d = .v (.bool b))
    (ho : opsOk o σ.n = true) (hj : OpQ C o (evA σ.env) σ.T x) (h : AQ C ops K l ⟨putE σ.env o.dst x, σ.T, σ.n⟩) : AQ C ops K (o :: l) σ := by
  intro a w S vals bss hs
  have hb := hs.st.bool (c := .tmp d) (t := b) (by simpa [noneBig] using hdn) rfl hv
  obtain ⟨v, h1, h2⟩ := hj a w S vals bss hs.2.2.1 (St.ops hs.2.1 hs.2.2.2 ho)
  have hw : Region.wanted o (yielded ops a.tmps) = true := by
    have hlt : d < a.tmps.size := by rw [hs.2.1]; exact hdn
    simp [Act.eval, hlt] at hb
    simp [Region.wanted, hg, yielded, ho', hd, hlt, hb]
  unfold wpQuiet
  rw [if_pos hw]
  exact ⟨v, h1, h _ _ _ _ _ (hs.put h2)⟩
theorem AQ.no {ops : Array Oper} {K : Sta → Prop} {o o' : Oper} {l : List Oper} {g d : Nat} {b : Bool} (hg : o.guard = some (g, !b)) (ho' : ops[g]? = some o') (hd : o'.dst = some d) (hdn : d < σ.n) (hv : σ.env d = .v (.bool b))
    (h : AQ C ops K l ⟨putE σ.env o.dst .any, σ.T, σ.n⟩) : AQ C ops K (o :: l) σ := by
  intro a w S vals bss hs
  have hb := hs.st.bool (c := .tmp d) (t := b) (by simpa [noneBig] using hdn) rfl hv
  have hw : ¬ Region.wanted o (yielded ops a.tmps) = true := by
    have hlt : d < a.tmps.size := by rw [hs.2.1]; exact hdn
    simp [Act.eval, hlt] at hb
    simp [Region.wanted, hg, yielded, ho', hd, hlt, hb]
  unfold wpQuiet
  rw [if_neg hw]
  exact h _ _ _ _ _ (hs.put TmpOK.any_)

/-! ### Steps that change only what is known -/
def Gh (C : Cx) (σ σ' : Sta) : Prop := ∀ a w, St C σ a w → St C σ' a w
theorem AW.gh {c : Code} {σ' : Sta} (hg : Gh C σ σ') (h : AW C c Q σ') : AW C c Q σ := fun a w hs => h a w (hg a w hs)
theorem AWL.gh {ops : Array Oper} {l : List Oper} {σ' : Sta} (hg : Gh C σ σ') (h : AWL C ops Q l σ') : AWL C ops Q l σ := fun a w hs => h a w (hg a w hs)
/-- A nil slice is taken for a slice of one's own. -/
theorem Gh.nil {e : TypeId} {sz : Nat} (t : Nat) (ht : t < σ.n) (hv : σ.env t = .v (.slice none 0 0)) (hi : sizeIs C.P e sz) : Gh C σ ⟨upd σ.env t (.sl σ.T.slots.length σ.T.ep 0 0), pushT σ.T (.own e []), σ.n⟩ := by
  intro a w ⟨hd, hn, S, vals, bss, hm, he⟩
  obtain ⟨hm', hf⟩ := hm.push (Kept.refl _ _) (rep_nil (S := S) (w := w) hi) (by simp) (by simp)
  refine ⟨hd, hn, S, _, _, hm', fun q hq => ?_⟩
  show TmpOK _ _ _ _ _ _ (upd σ.env t _ q)
  unfold upd
  by_cases h : q = t
  · subst h
    rw [if_pos rfl]
    have h1 := he q hq
    rw [hv] at h1
    rw [h1.v]
    exact push_sl (S := S) hm.nv (rep_nil (S := S) (w := w) hi)
  · rw [if_neg h]
    exact TmpOK.follows hf (he q hq)
/-- The last slots are given up. -/
theorem Gh.drop (m : Nat) : Gh C σ ⟨σ.env, ⟨σ.T.slots.take m, σ.T.ep⟩, σ.n⟩ := by
  intro a w ⟨hd, hn, S, vals, bss, hm, he⟩
  have tk : ∀ {α : Type} (l : List α) (r : Nat) (x : α), (l.take m)[r]? = some x → r < m ∧ l[r]? = some x := fun l r x h => by
    rw [List.getElem?_take] at h
    split at h
    · exact ⟨by assumption, h⟩
    · cases h
  refine ⟨hd, hn, S, vals.take m, bss.take m, ⟨hm.kept, hm.s0, hm.sub, hm.lt, by simp [hm.nv], by simp [hm.nb], fun r k x v bs q1 q2 q3 => hm.rep r k x v bs (tk _ _ _ q1).2 (tk _ _ _ q2).2 (tk _ _ _ q3).2, fun r bs q => hm.nodup r bs (tk _ _ _ q).2, fun r r' b1 b2 hne q1 q2 => hm.disj r r' b1 b2 hne (tk _ _ _ q1).2 (tk _ _ _ q2).2, fun r bs q => hm.apart r bs (tk _ _ _ q).2, fun r bs q => hm.mine r bs (tk _ _ _ q).2, fun r x hlt q => ?_, fun r k x q => hm.ver r k x (tk _ _ _ q).2, hm.pos⟩, fun t ht => ?_⟩
  · obtain ⟨h1, h2⟩ := tk _ _ _ q
    rw [List.getElem?_take, if_pos h1]
    exact hm.root r x hlt h2
  · refine TmpOK.follows ?_ (he t ht)
    intro u x hx
    cases x with
    | sl r k off len => exact ⟨hx.1, hx.2.1, fun e es v sz q1 q2 q3 => hx.2.2 e es v sz (tk _ _ _ q1).2 (tk _ _ _ q2).2 q3⟩
    | ptr r k i j => exact ⟨hx.1, hx.2.1, fun e es v sz q1 q2 q3 => hx.2.2 e es v sz (tk _ _ _ q1).2 (tk _ _ _ q2).2 q3⟩
    | mp r k => exact ⟨hx.1, hx.2.1, fun b ks v q1 q2 => hx.2.2 b ks v (tk _ _ _ q1).2 (tk _ _ _ q2).2⟩
    | _ => exact hx
/-- Cells that own nothing. -/
def flatA : AV → Bool
  | .own _ _ => false
  | .om _ _ => false
  | .nm _ _ _ => false
  | .byt _ _ _ => false
  | _ => true
theorem Rep.flat {P : Program} {S : Nat → Prop} {w : World} {bs : List Nat} {u : Value} {x : AV} (h : Rep P S w bs u x) (hx : flatA x = true) : bs = [] := by
  cases h <;> first | rfl | cases hx
theorem rep_freeze {P : Program} {S : Nat → Prop} {w : World} {bs : List Nat} {v : Value} {e : TypeId} {es : List (List AV)} (h : Rep P S w bs v (.own e es)) (hx : ∀ r ∈ es, ∀ c ∈ r, flatA c = true) :
    ∃ (us : List Value) (A : Option Addr) (c sz : Nat), v = .slice A es.length c ∧ es.length ≤ c ∧ c ≤ maxLen ∧ (∀ x ∈ es, x.length = sz) ∧ sizeIs P e sz ∧ us.length = es.flatten.length ∧ (∀ (i : Nat) (u : Value) (x : AV), us[i]? = some u → es.flatten[i]? = some x → Rep P S w [] u x) ∧ (0 < us.length → ∃ g, A = some ⟨g, 0, none⟩ ∧ g ∈ bs ∧ ∀ j u, us[j]? = some u → w.cell? ⟨g, j, none⟩ = some u) := by
  obtain ⟨us, sz, bss, rfl, hi, hsz, hown, hul, hbl, hc⟩ := h.own_inv
  have hcc : ∀ (i : Nat) (u : Value) (x : AV), us[i]? = some u → es.flatten[i]? = some x → Rep P S w [] u x := fun i u x hu hx' => by
    have hlt : i < bss.length := by rw [hbl]; exact (List.getElem?_eq_some_iff.1 hu).1
    have hr := hc i u x _ hu hx' (List.getElem?_eq_getElem hlt)
    obtain ⟨r, hr1, hr2⟩ := List.mem_flatten.1 (List.mem_of_getElem? hx')
    have := hr.flat (hx r hr1 x hr2)
    rw [this] at hr
    exact hr
  rcases hown.2 with ⟨rfl, h0⟩ | ⟨g, cap, cur, rfl, -, hg, p1, p2, -⟩
  · refine ⟨us, none, 0, sz, by rw [h0], by omega, by unfold maxLen; omega, hsz, hi, hul, hcc, fun hn => ?_⟩
    have : es = [] := List.eq_nil_of_length_eq_zero h0
    rw [hul, this] at hn; simp at hn
  · refine ⟨us, _, cap, sz, rfl, p1, p2, hsz, hi, hul, hcc, fun _ => ⟨g, rfl, by simp [Value.ownBlock], fun j u hu => ?_⟩⟩
    have := hown.cells (g := g) rfl j u hu
    rw [add_off, Nat.zero_add] at this
    exact this
/-- A slot is frozen: from now on it is only read. -/
theorem Gh.freeze {e : TypeId} {es : List (List AV)} {r k len : Nat} (t : Nat) (ht : t < σ.n) (hv : σ.env t = .sl r k 0 len) (hT : σ.T.slots[r]? = some (k, .own e es)) (hx : ∀ r ∈ es, ∀ c ∈ r, flatA c = true) {es' : List (List AV)} (he' : es.take len = es') :
    Gh C σ ⟨upd σ.env t (.ro es'), ⟨σ.T.slots.set r (k, .any), σ.T.ep⟩, σ.n⟩ := by
  intro a w ⟨hd, hn, S, vals, bss, hm, he⟩
  obtain ⟨v, bs, hv2, hb, hrep⟩ := hm.slot hT
  obtain ⟨us, A, c, sz, hve, p1, p2, hsz, hi, hul, hcc, hcell⟩ := rep_freeze hrep hx
  have hrl : r < σ.T.slots.length := (List.getElem?_eq_some_iff.1 hT).1
  have hSS : ∀ q, S q → S q ∨ q ∈ bs := fun q h => .inl h
  have hf : Follows C.P S w σ.T vals (fun q => S q ∨ q ∈ bs) w ⟨σ.T.slots.set r (k, .any), σ.T.ep⟩ vals := by
    intro u x hx
    have key2 : ∀ (q kq : Nat) (x : AV), (σ.T.slots.set r (k, .any))[q]? = some (kq, x) → x ≠ .any → σ.T.slots[q]? = some (kq, x) := by
      intro q kq x q1 hne
      rw [getElem?_set_ _ _ _ _ hrl] at q1
      split at q1
      · injection q1 with q1; injection q1 with _ q1; exact absurd q1.symm hne
      · exact q1
    cases x with
    | sl r k off len => exact ⟨hx.1, hx.2.1, fun e es v sz q1 q2 q3 => hx.2.2 e es v sz (key2 _ _ _ q1 (by simp)) q2 q3⟩
    | ptr r k i j => exact ⟨hx.1, hx.2.1, fun e es v sz q1 q2 q3 => hx.2.2 e es v sz (key2 _ _ _ q1 (by simp)) q2 q3⟩
    | mp r k => exact ⟨hx.1, hx.2.1, fun b ks v q1 q2 => hx.2.2 b ks v (key2 _ _ _ q1 (by simp)) q2⟩
    | _ => exact RefOK.kept (T := σ.T) (vals := vals) hx (Kept.refl (fun _ => True) w) (fun _ _ _ => trivial) hSS
  have hbt : ∀ (q : Nat) (b1 : List Nat), (bss.set r [])[q]? = some b1 → (b1 = [] ∧ q = r) ∨ (q ≠ r ∧ bss[q]? = some b1) := by
    intro q b1 h
    rw [getElem?_set_ _ _ _ _ (by rw [hm.nb]; exact hrl)] at h
    split at h
    · rename_i e1; injection h with h; exact .inl ⟨h.symm, e1.symm⟩
    · rename_i e1; exact .inr ⟨fun e => e1 e.symm, h⟩
  refine ⟨hd, hn, fun q => S q ∨ q ∈ bs, vals, bss.set r [], ⟨hm.kept, fun q h => .inl (hm.s0 q h), fun q h => ?_, fun q h => ?_, by simp [hm.nv], by simp [hm.nb], ?_, ?_, ?_, ?_, ?_, ?_, ?_, hm.pos⟩, fun q hq => ?_⟩
  · rcases h with h | h
    · exact hm.sub q h
    · rcases hm.mine r bs hb q h with h | h
      · exact .inr (.inl h)
      · exact .inr (.inr h)
  · rcases h with h | h
    · exact hm.lt q h
    · exact hm.blt hb q h
  · intro q kq y u b1 q1 q2 q3
    rw [getElem?_set_ _ _ _ _ hrl] at q1
    rcases hbt q b1 q3 with ⟨rfl, rfl⟩ | ⟨hne, q4⟩
    · rw [if_pos rfl] at q1
      injection q1 with q1; injection q1 with _ q1
      subst q1
      rw [hv2] at q2
      injection q2 with q2
      subst q2
      exact .any hrep.one
    · rw [if_neg (fun e => hne e.symm)] at q1
      exact (hm.rep q kq y u b1 q1 q2 q4).mono fun _ _ h => .inl h
  · intro q b1 q1
    rcases hbt q b1 q1 with ⟨rfl, rfl⟩ | ⟨hne, q4⟩
    · simp
    · exact hm.nodup q b1 q4
  · intro q q' b1 b2 hne q1 q2 b hb1 hb2
    rcases hbt q b1 q1 with ⟨rfl, rfl⟩ | ⟨hne1, q4⟩
    · simp at hb1
    · rcases hbt q' b2 q2 with ⟨rfl, rfl⟩ | ⟨hne2, q5⟩
      · simp at hb2
      · exact hm.disj q q' b1 b2 hne q4 q5 b hb1 hb2
  · intro q b1 q1 b hb1 hS
    rcases hbt q b1 q1 with ⟨rfl, rfl⟩ | ⟨hne1, q4⟩
    · simp at hb1
    · rcases hS with hS | hS
      · exact hm.apart q b1 q4 b hb1 hS
      · exact hm.disj q r b1 bs hne1 q4 hb b hb1 hS
  · intro q b1 q1 b hb1
    rcases hbt q b1 q1 with ⟨rfl, rfl⟩ | ⟨hne1, q4⟩
    · simp at hb1
    · exact hm.mine q b1 q4 b hb1
  · intro q y hlt q1
    rw [getElem?_set_ _ _ _ _ hrl] at q1
    split at q1
    · rename_i e1
      injection q1 with q1; injection q1 with q1 _
      subst e1
      exact hm.root r _ hlt (by rw [hT, q1])
    · exact hm.root q y hlt q1
  · intro q kq y q1
    rw [getElem?_set_ _ _ _ _ hrl] at q1
    split at q1
    · injection q1 with q1; injection q1 with q1 _
      rw [← q1]; exact hm.ver r k _ hT
    · exact hm.ver q kq y q1
  · show TmpOK _ _ _ _ _ _ (upd σ.env t _ q)
    unfold upd
    by_cases h : q = t
    · subst h
      rw [if_pos rfl]
      have h1 := he q hq
      rw [hv] at h1
      obtain ⟨hol, A0, nn, cap, hve2, g3, g4, g5, g6⟩ := h1.2.2 e es v sz hT hv2 hi
      rw [hve] at hve2
      injection hve2 with s1 s2 s3
      subst s1; subst s3
      have hu : a.tmps.getD q undef = .slice A len c := by
        rcases g6 with ⟨-, h8⟩ | ⟨A', h8, _⟩
        · exact h8
        · omega
      rw [hu]
      subst he'
      have hll : (es.take len).length = len := by rw [List.length_take]; omega
      have hfc := flat_cut hsz 0 len
      rw [Nat.zero_mul, List.drop_zero, List.drop_zero] at hfc
      suffices hh : Rep C.P (fun q => S q ∨ q ∈ bs) w [] (.slice A (es.take len).length c) (.ro (es.take len)) by rw [hll] at hh; exact hh
      refine Rep.ro (sz := sz) (us := us.take (len * sz)) (by rw [hll]; omega) p2 (fun x hx => hsz x (List.mem_of_mem_take hx)) (fun hn => ?_) ?_ ?_
      · obtain ⟨g, r1, r2, r3⟩ := hcell (by rw [List.length_take] at hn; omega)
        refine ⟨g, 0, r1, .inr r2, fun j u hu => ?_⟩
        rw [List.getElem?_take] at hu
        split at hu
        · rw [Nat.zero_add]; exact r3 j u hu
        · cases hu
      · rw [hfc, List.length_take, List.length_take, hul]
      · intro i u x hu hx
        rw [hfc, List.getElem?_take] at hx
        rw [List.getElem?_take] at hu
        split at hu
        · rename_i hlt
          rw [if_pos hlt] at hx
          exact (hcc i u x hu hx).mono fun _ _ h => .inl h
        · cases hu
    · rw [if_neg h]
      exact TmpOK.follows hf (he q hq)
end
end Go.Proofs.Ytjgbbffcjbmjmaa
namespace Go.Proofs.Ytjgbbffcjbmjmaa
open Go.RowKit
set_option linter.unusedSimpArgs false
set_option linter.unusedVariables false

/-! ### Contracts -/
def retV (us : List Value) : Value := match us with | [u] => u | us => .tuple us.toArray
def insT (ins : List AV) : Sl := ⟨ins.map fun x => (0, x), 1⟩
/-- Blocks, list by list, of which no two share one. -/
structure Own2 (bss : List (List Nat)) : Prop where
  nodup : ∀ (r : Nat) (bs : List Nat), bss[r]? = some bs → bs.Nodup
  disj : ∀ (r r' : Nat) (bs bs' : List Nat), r ≠ r' → bss[r]? = some bs → bss[r']? = some bs' → ∀ b ∈ bs, b ∉ bs'
def InL (bss : List (List Nat)) (b : Nat) : Prop := ∃ (r : Nat) (bs : List Nat), bss[r]? = some bs ∧ b ∈ bs
/-- What may be read for good behind a call. -/
def After (S : Nat → Prop) (w w' : World) (bss own : List (List Nat)) : Nat → Prop := fun k => S k ∨ ((w.heap.size ≤ k ∨ InL bss k) ∧ k < w'.heap.size ∧ ¬ InL own k)
structure Came (P : Program) (ins xs : List AV) (w : World) (S : Nat → Prop) (vals : List Value) (bss : List (List Nat)) (vs : List Value) : Prop where
  lt : ∀ k, S k → k < w.heap.size
  nv : vals.length = ins.length
  nb : bss.length = ins.length
  rep : ∀ (r : Nat) (x : AV) (v : Value) (bs : List Nat), ins[r]? = some x → vals[r]? = some v → bss[r]? = some bs → Rep P S w bs v x
  own : Own2 bss
  apart : ∀ b, InL bss b → ¬ S b
  args : RL (AggOK P S w (insT ins) vals) vs xs
structure Went (P : Program) (w : World) (S : Nat → Prop) (vals : List Value) (bss : List (List Nat)) (w' : World) (us : List Value) (ys outs : List AV) (bsr bss' : List (List Nat)) : Prop where
  kept : Kept (fun k => ¬ InL bss k) w w'
  nu : us.length = ys.length
  nr : bsr.length = ys.length
  no : outs.length = vals.length
  nb : bss'.length = vals.length
  res : ∀ (i : Nat) (u : Value) (y : AV) (bs : List Nat), us[i]? = some u → ys[i]? = some y → bsr[i]? = some bs → Rep P (After S w w' bss (bsr ++ bss')) w' bs u y ∨ (bs = [] ∧ AggOK P (After S w w' bss (bsr ++ bss')) w' (insT outs) vals u y)
  rep : ∀ (r : Nat) (x : AV) (v : Value) (bs : List Nat), outs[r]? = some x → vals[r]? = some v → bss'[r]? = some bs → Rep P (After S w w' bss (bsr ++ bss')) w' bs v x
  own : Own2 (bsr ++ bss')
  mine : ∀ b, InL (bsr ++ bss') b → w.heap.size ≤ b ∨ InL bss b
def Spec (P : Program) (f : FuncId) (ins xs : List AV) (Q : List AV → List AV → Prop) : Prop :=
  ∀ (w : World) (S : Nat → Prop) (vals : List Value) (bss : List (List Nat)) (vs : List Value), Came P ins xs w S vals bss vs →
    Calls P f vs.toArray w fun e w' => ∃ us ys outs bsr bss', e = .returned (retV us) ∧ Went P w S vals bss w' us ys outs bsr bss' ∧ Q ys outs
theorem Spec.mono {P : Program} {f : FuncId} {ins xs : List AV} {Q Q' : List AV → List AV → Prop} (h : Spec P f ins xs Q) (hq : ∀ ys outs, Q ys outs → Q' ys outs) : Spec P f ins xs Q' := fun w S vals bss vs hc =>
  (h w S vals bss vs hc).mono fun e w' ⟨us, ys, outs, bsr, bss', h1, h2, h3⟩ => ⟨us, ys, outs, bsr, bss', h1, h2, hq _ _ h3⟩

/-- What a result variable holds. -/
def ResIs (P : Program) (σ : Sta) : ResultVar → AV → Prop
  | .tmp t, z => t < σ.n ∧ σ.env t = z
  | .cell t ty, z => t < σ.n ∧ ∃ r k i j e es row, σ.env t = .ptr r k i j ∧ σ.T.slots[r]? = some (k, .own e es) ∧ es[i]? = some row ∧
      ((aggB P ty = some true ∧ ∃ n, sizeIs P ty n ∧ j + n ≤ row.length ∧ ((row.drop j).take n).map ldc = (match z with | .agg cs => cs | _ => [.any]) ∧ (∃ cs, z = .agg cs)) ∨ (aggB P ty = some false ∧ ∃ x, row[j]? = some x ∧ ldc x = z))
def clo1 (n0 : Nat) : AV → Bool
  | .sl r k _ _ => r < n0 && k == 0
  | .ptr r k _ _ => r < n0 && k == 0
  | .mp r k => r < n0 && k == 0
  | .tup _ => false
  | _ => true
def cloA (n0 : Nat) : AV → Bool
  | .agg cs => cs.all (clo1 n0)
  | x => clo1 n0 x
inductive Gives (T : Sl) (n0 : Nat) : List Nat → List AV → List AV → Prop
  | nil : Gives T n0 [] [] []
  | keep {used zs ys z} (hc : cloA n0 z = true) (h : Gives T n0 used zs ys) : Gives T n0 used (z :: zs) (z :: ys)
  | own {used zs ys r k e es len} (hT : T.slots[r]? = some (k, .own e es)) (hl : len = es.length) (hr : n0 ≤ r) (hu : r ∉ used) (h : Gives T n0 used zs ys) : Gives T n0 (r :: used) (.sl r k 0 len :: zs) (.own e es :: ys)
/-- What is to be shown at the end of a body. -/
def RQ (P : Program) (fn : Func) (n0 : Nat) (Q : List AV → List AV → Prop) : Exit → Sta → Prop
  | .normal, σ | .ret, σ => ∃ zs ys used outs, RL (ResIs P σ) fn.results.toList zs ∧ Gives σ.T n0 used zs ys ∧ outs.length = n0 ∧ (∀ (r : Nat) (x : AV), outs[r]? = some x → σ.T.slots[r]? = some (0, x)) ∧ Q ys outs
  | _, _ => False
def resOf (tmps : Array Value) : ResultVar → Sem Value
  | .tmp t => pure (tmps.getD t undef)
  | .cell b t => do loadVar t (← asAddr (tmps.getD b undef))
theorem mapM_run {P : Program} {w : World} {tmps : Array Value} {r : ResultVar} {rs : List ResultVar} {v : Value} {us : List Value} (h : (resOf tmps r).run P w = .ok v w) (h' : (rs.mapM (resOf tmps)).run P w = .ok us w) : ((r :: rs).mapM (resOf tmps)).run P w = .ok (v :: us) w := by
  simp only [List.mapM_cons, Sem.run_bind, h, h', Result.andThen_ok, Sem.run_pure]
theorem res_run {C : Cx} {σ : Sta} {a : Act} {w : World} {S : Nat → Prop} {vals : List Value} {bss : List (List Nat)} (hs : StI C σ a w S vals bss) : ∀ (rs : List ResultVar) (zs : List AV), RL (ResIs C.P σ) rs zs →
    ∃ us, (rs.mapM (resOf a.tmps)).run C.P w = .ok us w ∧ RL (TmpOK C.P S w σ.T vals) us zs
  | [], zs, h => by
    have : zs = [] := List.eq_nil_of_length_eq_zero h.1.symm
    subst this
    exact ⟨[], by simp, RL.nil⟩
  | r :: rs, [], h => by have := h.1; simp at this
  | r :: rs, z :: zs, h => by
    obtain ⟨r', rs', e, hr, h'⟩ := h.cons_inv
    injection e with e1 e2
    subst e1; subst e2
    obtain ⟨us, h1, h2⟩ := res_run hs rs zs h'
    obtain ⟨hd, hn, hm, he⟩ := hs
    cases r with
    | tmp t =>
      obtain ⟨q1, q2⟩ := hr
      have := he t q1
      rw [q2] at this
      exact ⟨_ :: us, mapM_run rfl h1, RL.cons this h2⟩
    | cell t ty =>
      obtain ⟨q1, rr, k, i, j, e, es, row, q2, q3, q4, q5⟩ := hr
      have hp := he t q1
      rw [q2] at hp
      obtain ⟨g, oo, e1, hc⟩ := ptr_cells hm q3 hp q4
      rcases q5 with ⟨g1, n, g2, g3, g4, cs, rfl⟩ | ⟨g1, x, g2, g3⟩
      · simp only at g4
        have hget : ∀ q, q < n → ∃ x c, row[j + q]? = some x ∧ w.cell? ⟨g, oo + q, none⟩ = some c ∧ Rep C.P S w [] c (ldc x) := fun q hq => by
          have hx := List.getElem?_eq_getElem (l := row) (i := j + q) (by omega)
          obtain ⟨c, bs, h3, h4⟩ := hc q _ hx
          exact ⟨_, c, hx, h3, h4.ldc⟩
        obtain ⟨cells, hul, hus⟩ : ∃ us : List Value, us.length = n ∧ ∀ q u, us[q]? = some u → w.cell? ⟨g, oo + q, none⟩ = some u := by
          refine ⟨(List.range n).map fun q => (w.cell? ⟨g, oo + q, none⟩).getD undef, by simp, fun q u hu => ?_⟩
          have hq : q < n := by have := (List.getElem?_eq_some_iff.1 hu).1; simpa using this
          obtain ⟨x, c, _, h3, _⟩ := hget q hq
          simp [hq, h3] at hu
          rw [h3, hu]
        have hl := run_loadVar (P := C.P) g1 g2 ⟨g, oo, none⟩ cells hul w fun q u hu => by rw [add_off]; exact hus q u hu
        refine ⟨.agg cells.toArray :: us, mapM_run (by simp only [resOf, Sem.run_bind, e1, asAddr, Sem.run_pure, Result.andThen_ok, hl]) h1, RL.cons ⟨_, rfl, ?_⟩ h2⟩
        rw [← g4]
        refine ⟨by simp [hul]; omega, fun q u x hu hx => ?_⟩
        simp only at hu
        rw [List.getElem?_map, List.getElem?_take] at hx
        have hq : q < n := by have := (List.getElem?_eq_some_iff.1 hu).1; omega
        rw [if_pos hq, List.getElem?_drop] at hx
        obtain ⟨x', c, p2, p3, p4⟩ := hget q hq
        rw [p2] at hx
        simp at hx
        subst hx
        have := hus q u hu
        rw [p3] at this
        injection this with this
        subst this
        exact Rep.ref p4
      · obtain ⟨c, bs, p3, p4⟩ := hc 0 x (by simpa using g2)
        have hl := run_loadOne (P := C.P) g1 ⟨g, oo, none⟩ c w (by simpa using p3)
        refine ⟨c :: us, mapM_run (by simp only [resOf, Sem.run_bind, e1, asAddr, Sem.run_pure, Result.andThen_ok, hl]) h1, RL.cons ?_ h2⟩
        rw [← g3]
        exact (Rep.ref p4.ldc).tmp
theorem own_val {C : Cx} {T : Sl} {S : Nat → Prop} {vals : List Value} {bss : List (List Nat)} {w : World} (hm : Mem C T S vals bss w) {u v : Value} {r k len : Nat} {e : TypeId} {es : List (List AV)} (hT : T.slots[r]? = some (k, .own e es)) (hv : vals[r]? = some v) (hl : len = es.length) (h : TmpOK C.P S w T vals u (.sl r k 0 len)) : u = v := by
  obtain ⟨v2, bs, hv2, hbb, hrep⟩ := hm.slot hT
  rw [hv] at hv2
  injection hv2 with hv2
  subst hv2
  obtain ⟨us0, sz0, bss0, -, hi0, hsz0, hown, -⟩ := hrep.own_inv
  obtain ⟨hol, A0, nn, cap, hve, g3, g4, g5, g6⟩ := h.2.2 e es v sz0 hT hv hi0
  rcases g6 with ⟨-, h8⟩ | ⟨A', h8, _⟩
  · rw [h8, hve, hl]
    rcases hown.2 with ⟨hnil, h0'⟩ | ⟨g, cap', cur, hcap, -⟩
    · rw [hve] at hnil; injection hnil with q1 q2 q3; rw [q2, h0']
    · rw [hve] at hcap; injection hcap with q1 q2 q3; rw [q2]
  · omega
/-- The blocks that the results take along. -/
theorem gives_out {C : Cx} {T : Sl} {S : Nat → Prop} {vals : List Value} {bss : List (List Nat)} {w : World} (hm : Mem C T S vals bss w) {n0 : Nat} : ∀ {used : List Nat} {zs ys : List AV}, Gives T n0 used zs ys → ∀ {us : List Value}, RL (TmpOK C.P S w T vals) us zs →
    ∃ rs : List (Option Nat), rs.length = ys.length ∧ us.length = ys.length ∧ (∀ (i r : Nat), rs[i]? = some (some r) → r ∈ used ∧ n0 ≤ r ∧ r < T.slots.length) ∧ (∀ (i j r : Nat), rs[i]? = some (some r) → rs[j]? = some (some r) → i = j) ∧
      (∀ (i : Nat) (u : Value) (y : AV), us[i]? = some u → ys[i]? = some y → (∃ (r : Nat) (bs : List Nat), rs[i]? = some (some r) ∧ bss[r]? = some bs ∧ Rep C.P S w bs u y) ∨ (rs[i]? = some none ∧ cloA n0 y = true ∧ TmpOK C.P S w T vals u y))
  | _, _, _, .nil, us, h => by
    have : us = [] := List.eq_nil_of_length_eq_zero h.1
    subst this
    exact ⟨[], rfl, rfl, by simp, by simp, by simp⟩
  | _, _, _, .keep hc hg, us, h => by
    obtain ⟨u, us', rfl, hu, h'⟩ := h.cons_inv
    obtain ⟨rs, h1, h2, h3, h4, h5⟩ := gives_out hm hg h'
    refine ⟨none :: rs, by simp [h1], by simp [h2], fun i r hi => ?_, fun i j r hi hj => ?_, fun i u y hu' hy => ?_⟩
    · cases i with
      | zero => simp at hi
      | succ i => exact h3 i r (by simpa using hi)
    · cases i <;> cases j <;> simp at hi hj
      · rename_i i j; rw [h4 i j r hi hj]
    · cases i with
      | zero => simp at hu' hy; subst hu'; subst hy; exact .inr ⟨rfl, hc, hu⟩
      | succ i => simpa using h5 i u y (by simpa using hu') (by simpa using hy)
  | _, _, _, .own (r := r) hT hl hr hu hg, us, h => by
    obtain ⟨u, us', rfl, hu', h'⟩ := h.cons_inv
    obtain ⟨rs, h1, h2, h3, h4, h5⟩ := gives_out hm hg h'
    obtain ⟨v, bs, hv, hb, hrep⟩ := hm.slot hT
    have := own_val hm hT hv hl hu'
    subst this
    refine ⟨some r :: rs, by simp [h1], by simp [h2], fun i q hi => ?_, fun i j q hi hj => ?_, fun i u y hu' hy => ?_⟩
    · cases i with
      | zero => simp at hi; subst hi; exact ⟨by simp, hr, (List.getElem?_eq_some_iff.1 hT).1⟩
      | succ i => obtain ⟨q1, q2⟩ := h3 i q (by simpa using hi); exact ⟨by simp [q1], q2⟩
    · cases i <;> cases j <;> simp at hi hj
      · rfl
      · subst hi; exact absurd (h3 _ _ hj).1 hu
      · subst hj; exact absurd (h3 _ _ hi).1 hu
      · rename_i i j; rw [h4 i j q hi hj]
    · cases i with
      | zero => simp at hu' hy; subst hu'; subst hy; exact .inl ⟨r, bs, rfl, hb, hrep⟩
      | succ i => simpa using h5 i u y (by simpa using hu') (by simpa using hy)
end Go.Proofs.Ytjgbbffcjbmjmaa
namespace Go.Proofs.Ytjgbbffcjbmjmaa
open Go.RowKit
set_option linter.unusedSimpArgs false
set_option linter.unusedVariables false

theorem inL_flatten {bss : List (List Nat)} {b : Nat} : InL bss b ↔ b ∈ bss.flatten := by
  constructor
  · rintro ⟨r, bs, h1, h2⟩; exact List.mem_flatten.2 ⟨bs, List.mem_of_getElem? h1, h2⟩
  · intro h
    obtain ⟨bs, h1, h2⟩ := List.mem_flatten.1 h
    obtain ⟨r, hr, rfl⟩ := List.getElem_of_mem h1
    exact ⟨r, _, List.getElem?_eq_getElem hr, h2⟩
theorem AggOK.clo {P : Program} {S S' : Nat → Prop} {w : World} {T : Sl} {vals : List Value} {outs : List AV} {u : Value} {y : AV} (h : TmpOK P S w T vals u y) (hc : cloA outs.length y = true) (hS : ∀ k, S k → S' k) (ho : ∀ (r : Nat) (x : AV), outs[r]? = some x → T.slots[r]? = some (0, x)) : AggOK P S' w (insT outs) vals u y := by
  have one : ∀ u y, clo1 outs.length y = true → RefOK P S w T vals u y → RefOK P S' w (insT outs) vals u y := by
    intro u y hc h
    have sl : ∀ (r k : Nat) (x : AV), (insT outs).slots[r]? = some (k, x) → T.slots[r]? = some (k, x) := fun r k x h => by
      simp only [insT, List.getElem?_map] at h
      cases hq : outs[r]? with
      | none => rw [hq] at h; cases h
      | some x' =>
        rw [hq] at h
        simp only [Option.map_some, Option.some.injEq] at h
        injection h with h1 h2
        subst h1; subst h2
        exact ho r _ hq
    cases y with
    | sl r k off len =>
      simp only [clo1, Bool.and_eq_true, beq_iff_eq, decide_eq_true_eq] at hc
      exact ⟨by simp [insT, hc.2], h.2.1, fun e es v sz q1 q2 q3 => h.2.2 e es v sz (sl _ _ _ q1) q2 q3⟩
    | ptr r k i j =>
      simp only [clo1, Bool.and_eq_true, beq_iff_eq, decide_eq_true_eq] at hc
      exact ⟨by simp [insT, hc.2], h.2.1, fun e es v sz q1 q2 q3 => h.2.2 e es v sz (sl _ _ _ q1) q2 q3⟩
    | mp r k =>
      simp only [clo1, Bool.and_eq_true, beq_iff_eq, decide_eq_true_eq] at hc
      exact ⟨by simp [insT, hc.2], h.2.1, fun b ks v q1 q2 => h.2.2 b ks v (sl _ _ _ q1) q2⟩
    | _ => exact RefOK.kept (T := insT outs) (vals := vals) h (Kept.refl (fun _ => True) w) (fun _ _ _ => trivial) hS
  cases y with
  | any => trivial
  | agg cs =>
    obtain ⟨us, e, r⟩ := h
    refine ⟨us, e, r.1, fun i u x hu hx => one u x ?_ (r.2 i u x hu hx)⟩
    simp only [cloA, List.all_eq_true] at hc
    exact hc x (List.mem_of_getElem? hx)
  | tup cs => cases hc
  | _ => simp only [TmpOK, AggOK] at h ⊢; exact one _ _ hc h
theorem retV_run {P : Program} {fn : Func} {tmps : Array Value} {us : List Value} {w : World} (h : (fn.results.toList.mapM (resOf tmps)).run P w = .ok us w) : (results fn tmps).run P w = .ok (retV us) w := by
  have h2 : (fn.results.mapM (resOf tmps)).run P w = .ok us.toArray w := by
    rw [Array.mapM_eq_mapM_toList]
    simp [h]
  have e : results fn tmps = (do let vs ← fn.results.mapM (resOf tmps); pure (if h : vs.size = 1 then vs[0] else .tuple vs) : Sem Value) := by
    unfold results
    congr 2
    try (funext x; cases x <;> rfl)
  rw [e]
  simp only [Sem.run_bind, h2, Result.andThen_ok, Sem.run_pure]
  congr 1
  match us with
  | [] => rfl
  | [u] => rfl
  | u :: v :: us => simp [retV]
theorem Spec.body {P : Program} {f : FuncId} {fn : Func} {c : Code} {ins xs : List AV} {Q : List AV → List AV → Prop} {n n0 : Nat} (hf : P.funcs[f]? = some fn) (hb : fn.body = some c) (hnn : fn.ntmps = n) (hn : xs.length ≤ n) (h0 : ins.length = n0)
    (h : ∀ S0 own0 v0 w0, AW ⟨P, S0, own0, v0, w0⟩ c (RQ P fn n0 Q) ⟨fun t => xs.getD t .any, insT ins, n⟩) : Spec P f ins xs Q := by
  subst hnn
  subst h0
  intro w S vals bss vs came
  refine calls_of_wp hf hb ?_
  have hvl : vs.length = xs.length := came.args.1
  have hsz : (vs.toArray ++ Array.replicate (fn.ntmps - vs.toArray.size) undef).size = fn.ntmps := by simp; omega
  have hmem : Mem ⟨P, S, bss.flatten, vals, w⟩ (insT ins) S vals bss w := by
    refine ⟨Kept.refl _ _, fun _ h => h, fun _ h => .inl h, came.lt, by simp [insT, came.nv], by simp [insT, came.nb], fun r k x v bs q1 q2 q3 => ?_, came.own.nodup, came.own.disj, fun r bs q b hb' => came.apart b ⟨r, bs, q, hb'⟩, fun r bs q b hb' => .inl (inL_flatten.1 ⟨r, bs, q, hb'⟩), fun _ _ _ _ => rfl, fun r k x q => ?_, by simp [insT]⟩
    · simp only [insT, List.getElem?_map] at q1
      cases hq : ins[r]? with
      | none => rw [hq] at q1; cases q1
      | some x' =>
        rw [hq] at q1
        simp only [Option.map_some, Option.some.injEq] at q1
        injection q1 with _ q1
        subst q1
        exact came.rep r _ v bs hq q2 q3
    · simp only [insT, List.getElem?_map] at q
      cases hq : ins[r]? with
      | none => rw [hq] at q; cases q
      | some x' =>
        rw [hq] at q
        simp only [Option.map_some, Option.some.injEq] at q
        injection q with q _
        subst q
        simp [insT]
  refine wp_mono (h S bss.flatten vals w { tmps := vs.toArray ++ Array.replicate (fn.ntmps - vs.toArray.size) undef, defers := [] } w ⟨rfl, hsz, S, vals, bss, hmem, fun t ht => ?_⟩) ?_
  · by_cases hlt : t < xs.length
    · have hx := List.getElem?_eq_getElem hlt
      obtain ⟨u, hu, hr⟩ := came.args.at_ hx
      have e1 : (vs.toArray ++ Array.replicate (fn.ntmps - vs.toArray.size) undef).getD t undef = u := by
        have hu' : vs.toArray[t]? = some u := by simpa using hu
        rw [Array.getD_eq_getD_getElem?, Array.getElem?_append_left (by simp; omega), hu']
        rfl
      show TmpOK P S w (insT ins) vals ((vs.toArray ++ Array.replicate (fn.ntmps - vs.toArray.size) undef).getD t undef) (xs.getD t .any)
      rw [e1, List.getD_eq_getElem?_getD, hx]
      exact hr.tmp
    · show TmpOK P S w (insT ins) vals ((vs.toArray ++ Array.replicate (fn.ntmps - vs.toArray.size) undef).getD t undef) (xs.getD t .any)
      rw [List.getD_eq_getElem?_getD, List.getElem?_eq_none (by omega)]
      trivial
  · intro e a w' hq
    obtain ⟨σ, ⟨hd, hn', Sf, valsf, bssf, hm, he⟩, hrq⟩ := hq
    have main : (∃ zs ys used outs, RL (ResIs P σ) fn.results.toList zs ∧ Gives σ.T ins.length used zs ys ∧ outs.length = ins.length ∧ (∀ (r : Nat) (x : AV), outs[r]? = some x → σ.T.slots[r]? = some (0, x)) ∧ Q ys outs) → a.defers = [] ∧ ∃ v, (results fn a.tmps).run P w' = .ok v w' ∧ ∃ us ys outs bsr bss', Ending.returned v = .returned (retV us) ∧ Went P w S vals bss w' us ys outs bsr bss' ∧ Q ys outs := by
      rintro ⟨zs, ys, used, outs, h1, h2, h3, h4, h5⟩
      obtain ⟨us, hr1, hr2⟩ := res_run (C := ⟨P, S, bss.flatten, vals, w⟩) ⟨hd, hn', hm, he⟩ _ _ h1
      obtain ⟨rs, g1, g2, g3, g4, g5⟩ := gives_out hm h2 hr2
      have hsl : ∀ r, r < ins.length → ∃ x, outs[r]? = some x ∧ σ.T.slots[r]? = some (0, x) := fun r hr => by
        have := List.getElem?_eq_getElem (l := outs) (i := r) (by omega)
        exact ⟨_, this, h4 r _ this⟩
      have hlen : ins.length ≤ σ.T.slots.length := by
        rcases Nat.eq_zero_or_pos ins.length with h0 | h0
        · omega
        · obtain ⟨x, _, h⟩ := hsl (ins.length - 1) (by omega)
          have := (List.getElem?_eq_some_iff.1 h).1
          omega
      have hval : ∀ r, r < ins.length → valsf[r]? = vals[r]? := fun r hr => by
        obtain ⟨x, _, h⟩ := hsl r hr
        exact hm.root r x (by show r < vals.length; rw [came.nv]; exact hr) h
      refine ⟨hd, retV us, retV_run hr1, us, ys, outs, rs.map (fun q => match q with | some r => bssf.getD r [] | none => []), bssf.take ins.length, rfl, ?_, h5⟩
      generalize hL : (rs.map (fun q => match q with | some r => bssf.getD r [] | none => [])) = bsr
      have hbl : bsr.length = rs.length := by rw [← hL]; simp
      have hkey : ∀ (i : Nat) (bs : List Nat), (bsr ++ bssf.take ins.length)[i]? = some bs → bs = [] ∨ ∃ q, bssf[q]? = some bs ∧ ((i < rs.length ∧ rs[i]? = some (some q)) ∨ (rs.length ≤ i ∧ q = i - rs.length ∧ q < ins.length)) := fun i bs h => by
        by_cases hi : i < rs.length
        · rw [List.getElem?_append_left (by omega), ← hL, List.getElem?_map, List.getElem?_eq_getElem hi] at h
          simp only [Option.map_some, Option.some.injEq] at h
          cases hq : rs[i] with
          | none => rw [hq] at h; exact .inl h.symm
          | some r =>
            rw [hq] at h
            right
            have hr : r < bssf.length := by rw [hm.nb]; exact (g3 i r (by rw [List.getElem?_eq_getElem hi, hq])).2.2
            refine ⟨r, ?_, .inl ⟨hi, by rw [List.getElem?_eq_getElem hi, hq]⟩⟩
            have h : bssf.getD r [] = bs := h
            rw [← h, List.getD_eq_getElem?_getD, List.getElem?_eq_getElem hr]; rfl
        · rw [List.getElem?_append_right (by omega), hbl, List.getElem?_take] at h
          split at h
          · exact .inr ⟨_, h, .inr ⟨by omega, rfl, by assumption⟩⟩
          · cases h
      have hinj : ∀ i j q, ((i < rs.length ∧ rs[i]? = some (some q)) ∨ (rs.length ≤ i ∧ q = i - rs.length ∧ q < ins.length)) → ((j < rs.length ∧ rs[j]? = some (some q)) ∨ (rs.length ≤ j ∧ q = j - rs.length ∧ q < ins.length)) → i = j := by
        rintro i j q (⟨a1, a2⟩ | ⟨a1, a2, a3⟩) (⟨b1, b2⟩ | ⟨b1, b2, b3⟩)
        · exact g4 i j q a2 b2
        · have := (g3 i q a2).2.1; omega
        · have := (g3 j q b2).2.1; omega
        · omega
      have hown : Own2 (bsr ++ bssf.take ins.length) := by
        refine ⟨fun r bs h => ?_, fun r r' b1 b2 hne q1 q2 b hb1 hb2 => ?_⟩
        · rcases hkey r bs h with rfl | ⟨q, h1, _⟩
          · simp
          · exact hm.nodup q bs h1
        · rcases hkey r b1 q1 with rfl | ⟨p1, h1, h2⟩
          · simp at hb1
          · rcases hkey r' b2 q2 with rfl | ⟨p2, h3, h4⟩
            · simp at hb2
            · by_cases hpp : p1 = p2
              · subst hpp; exact hne (hinj r r' p1 h2 h4)
              · exact hm.disj p1 p2 b1 b2 hpp h1 h3 b hb1 hb2
      have hin : ∀ b, InL (bsr ++ bssf.take ins.length) b → InL bssf b := by
        rintro b ⟨i, bs, h, hb'⟩
        rcases hkey i bs h with rfl | ⟨q, h1, _⟩
        · simp at hb'
        · exact ⟨q, bs, h1, hb'⟩
      have hS : ∀ k, Sf k → After S w w' bss (bsr ++ bssf.take ins.length) k := fun k hk => by
        rcases hm.sub k hk with h | h | h
        · exact .inl h
        · refine .inr ⟨.inr (inL_flatten.2 h), hm.lt k hk, fun hi => ?_⟩
          obtain ⟨q, bs, h1, h2⟩ := hin k hi
          exact hm.apart q bs h1 k h2 hk
        · refine .inr ⟨.inl h, hm.lt k hk, fun hi => ?_⟩
          obtain ⟨q, bs, h1, h2⟩ := hin k hi
          exact hm.apart q bs h1 k h2 hk
      refine ⟨hm.kept.mono fun k _ h hk => h (inL_flatten.2 hk), by omega, by omega, by rw [h3, came.nv], by rw [List.length_take, hm.nb, came.nv]; omega, fun i u y bs q1 q2 q3 => ?_, fun r x v bs q1 q2 q3 => ?_, hown, fun b hb' => ?_⟩
      · rw [← hL, List.getElem?_map] at q3
        rcases g5 i u y q1 q2 with ⟨r, b0, p1, p2, p3⟩ | ⟨p1, p2, p3⟩
        · left
          rw [p1] at q3
          simp only [Option.map_some, Option.some.injEq] at q3
          have q3 : bssf.getD r [] = bs := q3
          rw [List.getD_eq_getElem?_getD, p2] at q3
          simp only [Option.getD_some] at q3
          rw [← q3]
          exact p3.mono fun k _ => hS k
        · right
          rw [p1] at q3
          simp only [Option.map_some, Option.some.injEq] at q3
          refine ⟨q3.symm, ?_⟩
          have := AggOK.clo (S' := After S w w' bss (bsr ++ bssf.take ins.length)) (outs := outs) p3 (by rw [h3]; exact p2) hS h4
          have hvv : ∀ (r : Nat) (x : AV), (insT outs).slots[r]? = some (0, x) → valsf[r]? = vals[r]? := fun r x h => by
            have hr : r < outs.length := by have := (List.getElem?_eq_some_iff.1 h).1; simpa [insT] using this
            exact hval r (by omega)
          have conv : ∀ u y, RefOK P (After S w w' bss (bsr ++ bssf.take ins.length)) w' (insT outs) valsf u y → RefOK P (After S w w' bss (bsr ++ bssf.take ins.length)) w' (insT outs) vals u y := by
            intro u y h
            have z : ∀ (r k : Nat) (x : AV), (insT outs).slots[r]? = some (k, x) → valsf[r]? = vals[r]? := fun r k x h => by
              have hr : r < outs.length := by have := (List.getElem?_eq_some_iff.1 h).1; simpa [insT] using this
              exact hval r (by omega)
            cases y with
            | sl r k off len => exact ⟨h.1, h.2.1, fun e es v sz q1 q2 q3 => h.2.2 e es v sz q1 (by rw [z _ _ _ q1]; exact q2) q3⟩
            | ptr r k i j => exact ⟨h.1, h.2.1, fun e es v sz q1 q2 q3 => h.2.2 e es v sz q1 (by rw [z _ _ _ q1]; exact q2) q3⟩
            | mp r k => exact ⟨h.1, h.2.1, fun b ks v q1 q2 => h.2.2 b ks v q1 (by rw [z _ _ _ q1]; exact q2)⟩
            | _ => exact h
          exact AggOK.follows conv this
      · have hr : r < ins.length := by rw [← h3]; exact (List.getElem?_eq_some_iff.1 q1).1
        rw [List.getElem?_take, if_pos hr] at q3
        exact (hm.rep r 0 x v bs (h4 r x q1) (by rw [hval r hr]; exact q2) q3).mono fun k _ => hS k
      · obtain ⟨q, bs, h1, h2⟩ := hin b hb'
        rcases hm.mine q bs h1 b h2 with h | h
        · exact .inr (inL_flatten.2 h)
        · exact .inl h
    cases e with
    | normal => exact main hrq
    | ret => exact main hrq
    | exit i => exact hrq.elim
    | goto l => exact hrq.elim
    | panic c => exact hrq.elim
    | outgrown => exact hrq.elim
end Go.Proofs.Ytjgbbffcjbmjmaa
namespace Go.Proofs.Ytjgbbffcjbmjmaa
open Go.RowKit
set_option linter.unusedSimpArgs false
set_option linter.unusedVariables false

/-- A contract that names its results. -/
def Fn (P : Program) (f : FuncId) (ins xs ys outs : List AV) : Prop := Spec P f ins xs fun a b => a = ys ∧ b = outs
def nref1 : AV → Bool
  | .sl _ _ _ _ => false
  | .ptr _ _ _ _ => false
  | .mp _ _ => false
  | .tup _ => false
  | _ => true
def nrefA : AV → Bool
  | .agg cs => cs.all nref1
  | x => nref1 x
theorem RefOK.nref {P : Program} {S S' : Nat → Prop} {w : World} {T T' : Sl} {vals vals' : List Value} {u : Value} {y : AV} (h : RefOK P S w T vals u y) (hn : nref1 y = true) (hS : ∀ k, S k → S' k) : RefOK P S' w T' vals' u y := by
  cases y with
  | sl => cases hn
  | ptr => cases hn
  | mp => cases hn
  | _ => exact RefOK.kept (T := T') (vals := vals') h (Kept.refl (fun _ => True) w) (fun _ _ _ => trivial) hS
theorem AggOK.nref {P : Program} {S S' : Nat → Prop} {w : World} {T T' : Sl} {vals vals' : List Value} {u : Value} {y : AV} (h : AggOK P S w T vals u y) (hn : nrefA y = true) (hS : ∀ k, S k → S' k) : AggOK P S' w T' vals' u y := by
  cases y with
  | any => trivial
  | agg cs =>
    obtain ⟨us, e, r⟩ := h
    simp only [nrefA, List.all_eq_true] at hn
    exact ⟨us, e, r.1, fun i u x hu hx => (r.2 i u x hu hx).nref (hn x (List.mem_of_getElem? hx)) hS⟩
  | _ => simp only [AggOK] at h ⊢; exact RefOK.nref h hn hS
/-- A datum whose reading does not lean on what may be read for good. -/
def Solid (P : Program) (x : AV) : Prop := ∀ (S S' : Nat → Prop) (w : World) (bs : List Nat) (u : Value), Rep P S w bs u x → Rep P S' w bs u x
theorem Solid.v {P : Program} (x : Value) : Solid P (.v x) := fun S S' w bs u h => by obtain ⟨rfl, rfl, h2⟩ := h.v_inv; exact .v h2
theorem Solid.any {P : Program} : Solid P .any := fun S S' w bs u h => by obtain ⟨rfl, h2⟩ := h.any_inv; exact .any h2
theorem Solid.sln {P : Program} (n : Nat) : Solid P (.sln n) := fun S S' w bs u h => by obtain ⟨rfl, A, c, rfl, h1, h2⟩ := h.sln_inv; exact .sln h1 h2
theorem Solid.own {P : Program} {e : TypeId} {es : List (List AV)} (hx : ∀ r ∈ es, ∀ c ∈ r, Solid P c) : Solid P (.own e es) := fun S S' w bs u h => by
  obtain ⟨us, sz, bss, rfl, hi, hsz, hown, hul, hbl, hc⟩ := h.own_inv
  refine .own hi hsz hown hul hbl fun i u x b h1 h2 h3 => ?_
  obtain ⟨r, hr1, hr2⟩ := List.mem_flatten.1 (List.mem_of_getElem? h2)
  exact hx r hr1 x hr2 _ _ _ _ _ (hc i u x b h1 h2 h3)
def SolidA (P : Program) : AV → Prop
  | .agg cs => ∀ c ∈ cs, Solid P c
  | x => Solid P x

section
variable {C : Cx} {T : Sl} {S : Nat → Prop} {vals : List Value} {bss : List (List Nat)} {w : World}
theorem Mem.push2 (hm : Mem C T S vals bss w) {x : AV} {v : Value} {bs : List Nat} (hr : Rep C.P S w bs v x) (hn : bs.Nodup) (hb : ∀ b ∈ bs, ¬ InL bss b ∧ ¬ S b ∧ (b ∈ C.own0 ∨ C.w0.heap.size ≤ b)) :
    Mem C (pushT T x) S (vals ++ [v]) (bss ++ [bs]) w ∧ Follows C.P S w T vals S w (pushT T x) (vals ++ [v]) := by
  have cases3 : ∀ (r : Nat) (b1 : List Nat), (bss ++ [bs])[r]? = some b1 → bss[r]? = some b1 ∨ (r = T.slots.length ∧ b1 = bs) := fun r b1 h => by
    rw [getElem?_snoc] at h
    split at h
    · exact .inl h
    · split at h
      · rename_i e; injection h with h; exact .inr ⟨by rw [e, hm.nb], h.symm⟩
      · cases h
  constructor
  · refine ⟨hm.kept, hm.s0, hm.sub, hm.lt, by simp [pushT, hm.nv], by simp [pushT, hm.nb], ?_, ?_, ?_, ?_, ?_, ?_, ?_, by simp [pushT]⟩
    · intro r k y u bs' h1 h2 h3
      have h1 : (T.slots ++ [(T.ep, x)])[r]? = some (k, y) := h1
      rw [getElem?_snoc] at h1 h2 h3
      rw [hm.nv] at h2
      rw [hm.nb] at h3
      by_cases h : r < T.slots.length
      · rw [if_pos h] at h1 h2 h3
        exact hm.rep r k y u bs' h1 h2 h3
      · rw [if_neg h] at h1 h2 h3
        by_cases h' : r = T.slots.length
        · rw [if_pos h'] at h1 h2 h3
          injection h1 with h1; injection h1 with _ h1
          injection h2 with h2; injection h3 with h3
          subst h1; subst h2; subst h3
          exact hr
        · rw [if_neg h'] at h1; cases h1
    · intro r b1 h
      rcases cases3 r b1 h with h | ⟨_, rfl⟩
      · exact hm.nodup r b1 h
      · exact hn
    · intro r r' b1 b2 hne h1 h2 b hb1 hb2
      rcases cases3 r b1 h1 with g1 | ⟨e1, f1⟩ <;> rcases cases3 r' b2 h2 with g2 | ⟨e2, f2⟩
      · exact hm.disj r r' b1 b2 hne g1 g2 b hb1 hb2
      · exact (hb b (f2 ▸ hb2)).1 ⟨r, b1, g1, hb1⟩
      · exact (hb b (f1 ▸ hb1)).1 ⟨r', b2, g2, hb2⟩
      · omega
    · intro r b1 h b hb'
      rcases cases3 r b1 h with h | ⟨_, rfl⟩
      · exact hm.apart r b1 h b hb'
      · exact (hb b hb').2.1
    · intro r b1 h b hb'
      rcases cases3 r b1 h with h | ⟨_, rfl⟩
      · exact hm.mine r b1 h b hb'
      · exact (hb b hb').2.2
    · intro r y hlt h
      have h : (T.slots ++ [(T.ep, x)])[r]? = some (0, y) := h
      rw [getElem?_snoc] at h
      rw [getElem?_snoc, hm.nv]
      split at h
      · rename_i h'; rw [if_pos h']; exact hm.root r y hlt h
      · split at h
        · injection h with h
          injection h with h _
          have := hm.pos; omega
        · cases h
    · intro r k y h
      have h : (T.slots ++ [(T.ep, x)])[r]? = some (k, y) := h
      rw [getElem?_snoc] at h
      show k < T.ep + 1
      split at h
      · have := hm.ver r k y h; omega
      · split at h
        · injection h with h; injection h with h _; omega
        · cases h
  · intro u y h
    have hold : ∀ (r k : Nat) (x' : AV), k < T.ep → (pushT T x).slots[r]? = some (k, x') → T.slots[r]? = some (k, x') ∧ (vals ++ [v])[r]? = vals[r]? := fun r k x' hk' h => by
      have h : (T.slots ++ [(T.ep, x)])[r]? = some (k, x') := h
      rw [getElem?_snoc] at h
      rw [getElem?_snoc, hm.nv]
      split at h
      · rename_i hl; rw [if_pos hl]; exact ⟨h, rfl⟩
      · split at h
        · injection h with h; injection h with h _; omega
        · cases h
    have hep : ∀ k, k < T.ep → k < (pushT T x).ep := fun k h => by simp [pushT]; omega
    cases y with
    | sl r k off len =>
      refine ⟨hep _ h.1, h.2.1, fun e es v' sz h1 h2 h3 => ?_⟩
      obtain ⟨h4, h5⟩ := hold r k _ h.1 h1
      rw [h5] at h2
      exact h.2.2 e es v' sz h4 h2 h3
    | ptr r k i j =>
      refine ⟨hep _ h.1, h.2.1, fun e es v' sz h1 h2 h3 => ?_⟩
      obtain ⟨h4, h5⟩ := hold r k _ h.1 h1
      rw [h5] at h2
      exact h.2.2 e es v' sz h4 h2 h3
    | mp r k =>
      refine ⟨hep _ h.1, h.2.1, fun b ks v' h1 h2 => ?_⟩
      obtain ⟨h4, h5⟩ := hold r k _ h.1 h1
      rw [h5] at h2
      exact h.2.2 b ks v' h4 h2
    | _ => exact h
/-- More may be read for good. -/
theorem Mem.more {S' : Nat → Prop} (hm : Mem C T S vals bss w) (h1 : ∀ k, S k → S' k) (h2 : ∀ k, S' k → S k ∨ ((C.S0 k ∨ k ∈ C.own0 ∨ C.w0.heap.size ≤ k) ∧ k < w.heap.size ∧ ¬ InL bss k)) : Mem C T S' vals bss w :=
  ⟨hm.kept, fun k h => h1 k (hm.s0 k h), fun k h => (h2 k h).elim (hm.sub k) (·.1), fun k h => (h2 k h).elim (hm.lt k) (·.2.1), hm.nv, hm.nb, fun r k x v bs q1 q2 q3 => (hm.rep r k x v bs q1 q2 q3).mono fun k _ => h1 k, hm.nodup, hm.disj,
    fun r bs q b hb hs => (h2 b hs).elim (hm.apart r bs q b hb) fun h => h.2.2 ⟨r, bs, q, hb⟩, hm.mine, hm.root, hm.ver, hm.pos⟩
/-- What the caller makes of the results. -/
def unp : List AV → Sl → List AV × Sl
  | [], T => ([], T)
  | .own e es :: ys, T => let r := unp ys (pushT T (.own e es)); (.sl T.slots.length T.ep 0 es.length :: r.1, r.2)
  | y :: ys, T => let r := unp ys T; (y :: r.1, r.2)
def packR : List AV → AV
  | [z] => z
  | zs => .tup zs
theorem unp_ok : ∀ (ys : List AV) (us : List Value) (bsr : List (List Nat)) (T : Sl) (vals : List Value) (bss : List (List Nat)), Mem C T S vals bss w → us.length = ys.length → bsr.length = ys.length →
    (∀ (i : Nat) (u : Value) (y : AV) (bs : List Nat), us[i]? = some u → ys[i]? = some y → bsr[i]? = some bs → Rep C.P S w bs u y ∨ (bs = [] ∧ nrefA y = true ∧ ∃ T0 vals0, AggOK C.P S w T0 vals0 u y)) →
    Own2 bsr → (∀ b, InL bsr b → ¬ InL bss b ∧ ¬ S b ∧ (b ∈ C.own0 ∨ C.w0.heap.size ≤ b)) →
    ∃ vals' bss', Mem C (unp ys T).2 S vals' bss' w ∧ Follows C.P S w T vals S w (unp ys T).2 vals' ∧ RL (AggOK C.P S w (unp ys T).2 vals') us (unp ys T).1
  | [], us, bsr, T, vals, bss, hm, h1, h2, _, _, _ => by
    have : us = [] := List.eq_nil_of_length_eq_zero h1
    subst this
    exact ⟨vals, bss, hm, Follows.refl, RL.nil⟩
  | y :: ys, [], _, _, _, _, _, h1, _, _, _, _ => by simp at h1
  | y :: ys, u :: us, [], _, _, _, _, _, h2, _, _, _ => by simp at h2
  | y :: ys, u :: us, bs :: bsr, T, vals, bss, hm, h1, h2, h3, h4, h5 => by
    have hd := h3 0 u y bs rfl rfl rfl
    have htl : ∀ (i : Nat) (u : Value) (y : AV) (b : List Nat), us[i]? = some u → ys[i]? = some y → bsr[i]? = some b → Rep C.P S w b u y ∨ (b = [] ∧ nrefA y = true ∧ ∃ T0 vals0, AggOK C.P S w T0 vals0 u y) := fun i u y b q1 q2 q3 => h3 (i + 1) u y b (by simpa using q1) (by simpa using q2) (by simpa using q3)
    have hown : Own2 bsr := ⟨fun r b h => h4.nodup (r + 1) b (by simpa using h), fun r r' b b' hne q1 q2 => h4.disj (r + 1) (r' + 1) b b' (by omega) (by simpa using q1) (by simpa using q2)⟩
    have hin : ∀ b, InL bsr b → InL (bs :: bsr) b := fun b ⟨r, b1, q1, q2⟩ => ⟨r + 1, b1, by simpa using q1, q2⟩
    have plain : (∀ e es, y ≠ .own e es) → AggOK C.P S w T vals u y ∧ bs = bs → ∃ vals' bss', Mem C (unp (y :: ys) T).2 S vals' bss' w ∧ Follows C.P S w T vals S w (unp (y :: ys) T).2 vals' ∧ RL (AggOK C.P S w (unp (y :: ys) T).2 vals') (u :: us) (unp (y :: ys) T).1 := by
      intro hne ⟨ha, _⟩
      obtain ⟨vals', bss', g1, g2, g3⟩ := unp_ok ys us bsr T vals bss hm (by simpa using h1) (by simpa using h2) htl hown fun b hb => h5 b (hin b hb)
      have e : unp (y :: ys) T = (y :: (unp ys T).1, (unp ys T).2) := by
        cases y <;> first | rfl | (exact absurd rfl (hne _ _))
      rw [e]
      exact ⟨vals', bss', g1, g2, RL.cons (AggOK.follows g2 ha) g3⟩
    by_cases ho : ∃ e es, y = .own e es
    · obtain ⟨e, es, rfl⟩ := ho
      have hrep : ∃ b0, Rep C.P S w b0 u (.own e es) ∧ b0.Nodup ∧ (∀ b ∈ b0, b ∈ bs) := by
        rcases hd with h | ⟨rfl, _, T0, vals0, h⟩
        · exact ⟨bs, h, h4.nodup 0 bs rfl, fun b h => h⟩
        · exact ⟨[], h, by simp, by simp⟩
      obtain ⟨b0, hr, hnd, hsub⟩ := hrep
      obtain ⟨hm', hf⟩ := hm.push2 hr hnd fun b hb => h5 b ⟨0, bs, rfl, hsub b hb⟩
      obtain ⟨vals', bss', g1, g2, g3⟩ := unp_ok ys us bsr (pushT T (.own e es)) (vals ++ [u]) (bss ++ [b0]) hm' (by simpa using h1) (by simpa using h2) htl hown fun b hb => by
        obtain ⟨q1, q2, q3⟩ := h5 b (hin b hb)
        refine ⟨fun ⟨r, b1, p1, p2⟩ => ?_, q2, q3⟩
        rw [getElem?_snoc] at p1
        split at p1
        · exact q1 ⟨r, b1, p1, p2⟩
        · split at p1
          · injection p1 with p1
            subst p1
            obtain ⟨r', b2, p3, p4⟩ := hb
            exact h4.disj 0 (r' + 1) bs b2 (by omega) rfl (by simpa using p3) b (hsub b p2) p4
          · cases p1
      refine ⟨vals', bss', g1, fun u x h => g2 u x (hf u x h), RL.cons ?_ g3⟩
      have hp := push_sl (C := C) (S := S) (T := T) hm.nv hr
      exact AggOK.follows g2 (show AggOK C.P S w _ _ u (.sl T.slots.length T.ep 0 es.length) from hp)
    · refine plain (fun e es h => ho ⟨e, es, h⟩) ⟨?_, rfl⟩
      rcases hd with h | ⟨rfl, hn, T0, vals0, h⟩
      · cases h with
        | own => exact absurd ⟨_, _, rfl⟩ ho
        | any h => trivial
        | v h => exact Rep.v h
        | sln a b => exact Rep.sln a b
        | ro a b c d e f => exact Rep.ro a b c d e f
        | rof a b c d e => exact Rep.rof a b c d e
        | rop a b c => exact Rep.rop a b c
        | clo a b => exact Rep.clo a b
        | nm h => exact Rep.one h
        | byt => rfl
        | om => rfl
      · exact h.nref hn fun _ h => h
end
end Go.Proofs.Ytjgbbffcjbmjmaa
namespace Go.Proofs.Ytjgbbffcjbmjmaa
open Go.RowKit
set_option linter.unusedSimpArgs false
set_option linter.unusedVariables false

section
variable {C : Cx} {T : Sl} {S : Nat → Prop} {vals : List Value} {bss : List (List Nat)} {w : World} {o : Oper} {ev : Operand → AV}
/-- A slice of one's own, lent for reading. -/
theorem src_view (hm : Mem C T S vals bss w) {y : AV} {rows : List (List AV)} (h : Src T y rows) {u : Value} (hu : TmpOK C.P S w T vals u y) : Rep C.P (fun k => S k ∨ InL bss k) w [] u (.ro rows) := by
  obtain ⟨A, c, us, sz, e1, h3, h4, h5, h6, h7⟩ := src_cells hm h hu
  subst e1
  refine Rep.ro (us := us) h4 h5 h3 (fun hn => ?_) h6.1 fun i u x q1 q2 => (h6.2 i u x q1 q2).mono fun _ _ h => .inl h
  obtain ⟨g, oo, hA, hc⟩ := h7 hn
  refine ⟨g, oo, hA, ?_, hc⟩
  cases h with
  | ro =>
    obtain ⟨-, A', c', sz', us', e, g1, g2, g3, g4, g5, g6⟩ := hu.ro.ro_inv
    injection e with e1 e2 e3
    obtain ⟨g', o', q1, q2, q3⟩ := g4 (by rw [g5, ← h6.1]; exact hn)
    rw [← e1, hA] at q1
    injection q1 with q1; injection q1 with q1
    rw [q1]; exact .inl q2
  | rof =>
    obtain ⟨-, A', sz', us', e, g2, g3, g4, g5, g6⟩ := (show Rep C.P S w [] _ (.rof rows) from hu).rof_inv
    injection e with e1 e2 e3
    obtain ⟨g', o', q1, q2, q3⟩ := g4 (by rw [g5, ← h6.1]; exact hn)
    rw [← e1, hA] at q1
    injection q1 with q1; injection q1 with q1
    rw [q1]; exact .inl q2
  | nil =>
    have := hu.v
    injection this with e1
    rw [hA] at e1; cases e1
  | sl hT hr =>
    rename_i r k off len e es
    obtain ⟨v, bs, hv, hb, hrep⟩ := hm.slot hT
    obtain ⟨us0, sz0, bss', hbs, hi, hsz, hown, hul, hbl, hc0⟩ := hrep.own_inv
    obtain ⟨hol, A0, nn, cap, hve, g3, g4, g5, g6⟩ := hu.2.2 e es v sz0 hT hv hi
    refine .inr ⟨r, bs, hb, ?_⟩
    rw [hbs]
    refine List.mem_append_left _ ?_
    rcases g6 with ⟨-, h8⟩ | ⟨A', h0, h8, h9⟩
    · injection h8 with q1 q2 q3
      rw [← q1, hA] at hve
      rw [hve]; simp [Value.ownBlock]
    · injection h8 with q1 q2 q3
      rcases Nat.eq_zero_or_pos len with hl | hl
      · exfalso
        have : rows = [] := by
          rw [← hr, hl]; simp
        rw [h6.1, this] at hn
        simp at hn
      · obtain ⟨g', p1, p2⟩ := h9 hl
        rw [← q1, hA] at p2
        injection p2 with p2; injection p2 with p2
        rw [hve, p1, p2]; simp [Value.ownBlock]
theorem ptr_view (hm : Mem C T S vals bss w) {r k i j : Nat} {e : TypeId} {es : List (List AV)} {row cs : List AV} (hT : T.slots[r]? = some (k, .own e es)) (hrow : es[i]? = some row) (hcs : (row.drop j).map ldc = cs) {u : Value} (hu : TmpOK C.P S w T vals u (.ptr r k i j)) : Rep C.P (fun k => S k ∨ InL bss k) w [] u (.rop cs) := by
  obtain ⟨g, oo, he, hc⟩ := ptr_cells hm hT hu hrow
  obtain ⟨v, bs, hv, hb, hrep⟩ := hm.slot hT
  obtain ⟨us0, sz0, bss', hbs, hi, hsz, hown, hul, hbl, hc0⟩ := hrep.own_inv
  obtain ⟨hil, g', n', cap, hve, he2⟩ := hu.2.2 e es v sz0 hT hv hi
  have hget : ∀ q, q < cs.length → ∃ x c, row[j + q]? = some x ∧ w.cell? ⟨g, oo + q, none⟩ = some c ∧ Rep C.P S w [] c (ldc x) := fun q hq => by
    have hl : j + q < row.length := by rw [← hcs] at hq; simp at hq; omega
    have hx := List.getElem?_eq_getElem hl
    obtain ⟨c, bs, h3, h4⟩ := hc q _ hx
    exact ⟨_, c, hx, h3, h4.ldc⟩
  obtain ⟨us, hul2, hus⟩ : ∃ us : List Value, us.length = cs.length ∧ ∀ q u, us[q]? = some u → w.cell? ⟨g, oo + q, none⟩ = some u := by
    refine ⟨(List.range cs.length).map fun q => (w.cell? ⟨g, oo + q, none⟩).getD undef, by simp, fun q u hu => ?_⟩
    have hq : q < cs.length := by have := (List.getElem?_eq_some_iff.1 hu).1; simpa using this
    obtain ⟨x, c, _, h3, _⟩ := hget q hq
    simp [hq, h3] at hu
    rw [h3, hu]
  rw [he]
  refine Rep.rop (us := us) (fun _ => ⟨g, oo, rfl, .inr ⟨r, bs, hb, ?_⟩, hus⟩) hul2 fun q u x h1 h2 => ?_
  · rw [he] at he2
    injection he2 with he2; injection he2 with he2; injection he2 with he2
    rw [hbs, hve, he2]; simp [Value.ownBlock]
  · have hq : q < cs.length := (List.getElem?_eq_some_iff.1 h2).1
    obtain ⟨x', c, p1, p2, p3⟩ := hget q hq
    have := hus q u h1
    rw [p2] at this
    injection this with this
    subst this
    rw [← hcs, List.getElem?_map, List.getElem?_drop, p1] at h2
    simp only [Option.map_some, Option.some.injEq] at h2
    rw [← h2]
    exact p3.mono fun _ _ h => .inl h
/-- What an argument is lent as. -/
inductive View (T : Sl) : Bool → AV → AV → Prop
  | same {b x} (h : nrefA x = true) : View T b x x
  | nil {b} : View T b (.v (.slice none 0 0)) (.ro [])
  | rof {b es} : View T b (.rof es) (.ro es)
  | src {y rows} (h : Src T y rows) : View T true y (.ro rows)
  | ptr {r k i j e es row cs} (hT : T.slots[r]? = some (k, .own e es)) (hrow : es[i]? = some row) (hcs : (row.drop j).map ldc = cs) : View T true (.ptr r k i j) (.rop cs)
theorem rep_ro_nil {P : Program} {S : Nat → Prop} {w : World} : Rep P S w [] (.slice none 0 0) (.ro []) :=
  Rep.ro (es := []) (sz := 0) (us := []) (Nat.le_refl _) (by unfold maxLen; omega) (by simp) (fun h => by simp at h) rfl (by simp)
def lent (b : Bool) (S : Nat → Prop) (bss : List (List Nat)) : Nat → Prop := fun k => S k ∨ (b = true ∧ InL bss k)
theorem view_ok (hm : Mem C T S vals bss w) {b : Bool} {y x : AV} (h : View T b y x) {u : Value} (hu : TmpOK C.P S w T vals u y) : AggOK C.P (lent b S bss) w (insT []) [] u x := by
  have hl : ∀ k, S k → lent b S bss k := fun k h => .inl h
  cases h with
  | same hn =>
    have ha : AggOK C.P S w T vals u y := by
      cases y with
      | tup => cases hn
      | _ => exact hu
    exact ha.nref hn hl
  | nil => rw [hu.v]; exact rep_ro_nil
  | rof => exact (Rep.ro_of_rof (show Rep C.P S w [] u (.rof _) from hu)).mono fun k _ => hl k
  | src h => exact (src_view hm h hu).mono fun k _ h => h.elim .inl fun h => .inr ⟨rfl, h⟩
  | ptr hT hrow hcs => exact (ptr_view hm hT hrow hcs hu).mono fun k _ h => h.elim .inl fun h => .inr ⟨rfl, h⟩
theorem came0 (hm : Mem C T S vals bss w) {b : Bool} {args : Array Operand} {a : Act} {xs : List AV} (hv : RL (View T b) (args.toList.map ev) xs) (ho : ∀ y ∈ args, TmpOK C.P S w T vals (a.eval y) (ev y)) : Came C.P [] xs w (lent b S bss) [] [] (args.toList.map a.eval) := by
  refine ⟨fun k h => ?_, rfl, rfl, by simp, ⟨by simp, by simp⟩, fun b ⟨r, bs, h, _⟩ => by simp at h, by have := hv.1; simpa using this, fun i u x h1 h2 => ?_⟩
  · rcases h with h | ⟨_, r, bs, h1, h2⟩
    · exact hm.lt k h
    · exact hm.blt h1 k h2
  · rw [List.getElem?_map] at h1
    cases hq : args.toList[i]? with
    | none => rw [hq] at h1; cases h1
    | some y =>
      rw [hq] at h1
      simp only [Option.map_some, Option.some.injEq] at h1
      subst h1
      exact view_ok hm (hv.2 i (ev y) x (by rw [List.getElem?_map, hq]; rfl) h2) (ho y (Array.mem_toList_iff.1 (List.mem_of_getElem? hq)))
/-- Entering a function of the program. -/
def Enters (P : Program) (f : FuncId) : Prop := ∀ vs w, (callFunc f vs).run P w = .ok (.enter f vs) w
theorem op_call {f : FuncId} {args : Array Operand} {ts : Array TypeId} {b : Bool} {xs ys : List AV} (ho : o.op = .call { callee := .value (.func f), args := args, argTypes := ts }) (hf : Enters C.P f) (hsp : Fn C.P f [] xs ys []) (hv : RL (View T b) (args.toList.map ev) xs)
    (hn : ys.all nrefA = true) (hsol : b = true → ∀ y ∈ ys, SolidA C.P y) {x : AV} {T' : Sl} (hx : packR (unp ys T).1 = x) (hT : (unp ys T).2 = T') : OpJ C o ev T x T' := by
  intro a w S vals bss hm h K hK Q
  have hargs : ∀ y ∈ args, TmpOK C.P S w T vals (a.eval y) (ev y) := fun y hy => h y (by simp [ho, Op.operands, Call.operands]; exact .inr hy)
  have hc := hsp w (lent b S bss) [] [] _ (came0 hm hv hargs)
  have hrun : (execOp a.eval o).run C.P w = .ok (.enter f (args.toList.map a.eval).toArray) w := by
    have e1 : (args.map a.eval) = (args.toList.map a.eval).toArray := by apply Array.toList_inj.1; simp
    simp only [execOp, ho, resolve, Act.eval, Deferred.ofValue, Sem.run_bind, Sem.run_pure, Result.andThen_ok, invoke]
    rw [← e1]
    simpa using hf _ w
  unfold Oper.wp
  rw [hrun, Oper.upon_enter]
  refine hc.mono ?_
  rintro e w' ⟨us, ys', outs, bsr, bss', rfl, went, rfl, rfl⟩
  simp only
  have hb0 : bss' = [] := List.eq_nil_of_length_eq_zero went.nb
  subst hb0
  have hk : Kept (fun _ => True) w w' := went.kept.mono fun k _ _ ⟨r, bs, h, _⟩ => by simp at h
  have hown : Own2 bsr := by have := went.own; rwa [List.append_nil] at this
  have hmine : ∀ q, InL bsr q → w.heap.size ≤ q := fun q hq => by
    have := went.mine q (by rw [List.append_nil]; exact hq)
    exact this.resolve_right fun ⟨r, bs, h, _⟩ => by simp at h
  have hS2 : ∀ k, S k → S k ∨ (w.heap.size ≤ k ∧ k < w'.heap.size ∧ ¬ InL bsr k) := fun k h => .inl h
  have hm1 := (hm.grow hk).more (S' := fun k => S k ∨ (w.heap.size ≤ k ∧ k < w'.heap.size ∧ ¬ InL bsr k)) hS2 fun k h => by
    rcases h with h | ⟨h1, h2, h3⟩
    · exact .inl h
    · refine .inr ⟨.inr (.inr (by have := hm.kept.size; omega)), h2, fun ⟨r, bs, q1, q2⟩ => ?_⟩
      have := hm.blt q1 k q2; omega
  have hf1 : Follows C.P S w T vals (fun k => S k ∨ (w.heap.size ≤ k ∧ k < w'.heap.size ∧ ¬ InL bsr k)) w' T vals := Follows.kept hk (fun _ _ _ => trivial) hS2
  have hAf : ∀ k, After (lent b S bss) w w' [] (bsr ++ []) k → (S k ∨ (w.heap.size ≤ k ∧ k < w'.heap.size ∧ ¬ InL bsr k)) ∨ (b = true ∧ InL bss k) := fun k h => by
    rcases h with h | ⟨h1, h2, h3⟩
    · rcases h with h | h
      · exact .inl (.inl h)
      · exact .inr h
    · rcases h1 with h1 | ⟨r, bs, h, _⟩
      · rw [List.append_nil] at h3; exact .inl (.inr ⟨h1, h2, h3⟩)
      · simp at h
  obtain ⟨vals', bss'', g1, g2, g3⟩ := unp_ok ys' us bsr T vals bss hm1 went.nu went.nr (fun i u y bs q1 q2 q3 => by
    have hny : nrefA y = true := List.all_eq_true.1 hn y (List.mem_of_getElem? q2)
    cases b with
    | false =>
      have hA : ∀ k, After (lent false S bss) w w' [] (bsr ++ []) k → S k ∨ (w.heap.size ≤ k ∧ k < w'.heap.size ∧ ¬ InL bsr k) := fun k h => (hAf k h).resolve_right (by simp)
      rcases went.res i u y bs q1 q2 q3 with h | ⟨h1, h2⟩
      · exact .inl (h.mono fun k _ => hA k)
      · exact .inr ⟨h1, hny, T, vals, h2.nref hny hA⟩
    | true =>
      have hs := hsol rfl y (List.mem_of_getElem? q2)
      rcases went.res i u y bs q1 q2 q3 with h | ⟨h1, h2⟩
      · left
        cases y with
        | agg cs => exact absurd rfl (h.plain cs).1
        | _ => exact hs _ _ _ _ _ h
      · refine .inr ⟨h1, hny, T, vals, ?_⟩
        cases y with
        | any => trivial
        | agg cs =>
          obtain ⟨us', e, r⟩ := h2
          simp only [nrefA, List.all_eq_true] at hny
          refine ⟨us', e, r.1, fun i u x hu hx => ?_⟩
          have h3 := r.2 i u x hu hx
          have h4 := hny x (List.mem_of_getElem? hx)
          have h5 := hs x (List.mem_of_getElem? hx)
          cases x with
          | sl => cases h4
          | ptr => cases h4
          | mp => cases h4
          | nm => exact h3
          | byt => exact h3
          | om => exact h3
          | _ => exact h5 _ _ _ _ _ h3
        | sl => cases hny
        | ptr => cases hny
        | mp => cases hny
        | tup => cases hny
        | nm => exact h2
        | byt => exact h2
        | om => exact h2
        | _ => simp only [AggOK] at h2 ⊢; exact hs _ _ _ _ _ h2) hown (fun q hq => by
      have hge := hmine q hq
      refine ⟨fun ⟨r, bs, q1, q2⟩ => by have := hm.blt q1 q q2; omega, fun h => ?_, .inr (by have := hm.kept.size; omega)⟩
      rcases h with h | h
      · have := hm.lt q h; omega
      · exact h.2.2 hq)
  subst hT
  refine hK _ _ _ _ _ g1 (fun u x h => g2 u x (hf1 u x h)) ?_
  subst hx
  match us, hz : (unp ys' T).1, g3 with
  | [], zs, r =>
    have : zs = [] := List.eq_nil_of_length_eq_zero r.1.symm
    subst this
    exact ⟨#[], rfl, RL.nil⟩
  | [u], zs, r =>
    obtain ⟨z, rfl⟩ : ∃ z, zs = [z] := by
      match zs, r.1 with
      | [z], _ => exact ⟨z, rfl⟩
    exact (r.2 0 u z rfl rfl).tmp
  | u :: u2 :: us, zs, r =>
    obtain ⟨z1, z2, zs', rfl⟩ : ∃ z1 z2 zs', zs = z1 :: z2 :: zs' := by
      match zs, r.1 with
      | z1 :: z2 :: zs', _ => exact ⟨z1, z2, zs', rfl⟩
    exact ⟨_, rfl, by simpa using r⟩
/-- A call that only reads and gives one known value. -/
theorem op_callQ {f : FuncId} {args : Array Operand} {ts : Array TypeId} {b : Bool} {xs : List AV} {x : Value} (ho : o.op = .call { callee := .value (.func f), args := args, argTypes := ts }) (hf : Enters C.P f) (hsp : Fn C.P f [] xs [.v x] []) (hv : RL (View T b) (args.toList.map ev) xs) (hx : x.oneCell' = true) : OpQ C o ev T (.v x) := by
  intro a w S vals bss hm h
  refine ⟨x, fun w' hk => ?_, TmpOK.v_ hx⟩
  have hargs : ∀ y ∈ args, TmpOK C.P S w' T vals (a.eval y) (ev y) := fun y hy => TmpOK.follows (Follows.kept hk (fun _ _ _ => trivial) fun _ h => h) (h y (by simp [ho, Op.operands, Call.operands]; exact .inr hy))
  have hc := hsp w' (lent b S bss) [] [] _ (came0 (hm.grow hk) hv hargs)
  have hrun : (execOp a.eval o).run C.P w' = .ok (.enter f (args.toList.map a.eval).toArray) w' := by
    have e1 : (args.map a.eval) = (args.toList.map a.eval).toArray := by apply Array.toList_inj.1; simp
    simp only [execOp, ho, resolve, Act.eval, Deferred.ofValue, Sem.run_bind, Sem.run_pure, Result.andThen_ok, invoke]
    rw [← e1]
    simpa using hf _ w'
  unfold Oper.quietAt
  rw [hrun]
  refine ⟨rfl, hc.mono ?_⟩
  rintro e w'' ⟨us, ys', outs, bsr, bss', rfl, went, rfl, rfl⟩
  have hk2 : Kept (fun _ => True) w' w'' := went.kept.mono fun k _ _ ⟨r, bs, h, _⟩ => by simp at h
  refine ⟨?_, hk.trans hk2⟩
  match us, went.nu with
  | [u], _ =>
    have hr := went.res 0 u (.v x) (bsr[0]'(by rw [went.nr]; simp)) rfl rfl (List.getElem?_eq_getElem _)
    rcases hr with h | ⟨_, h⟩
    · rw [retV, h.v_inv.1]
    · rw [retV, (show Rep C.P _ w'' [] u (.v x) from h).v_inv.1]
end
end Go.Proofs.Ytjgbbffcjbmjmaa
