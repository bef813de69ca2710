import Derived.Test.YtngfknoddphhaaaAb9
namespace Go.Proofs.Ytngfknoddphhaaa
open Go.RowKit
set_option linter.unusedSimpArgs false
set_option linter.unusedVariables false

section
variable {C : Cx} {o : Oper} {ev : Operand → AV} {T : Sl}

/-- y is a slice that can be read: its rows. -/
inductive Src (T : Sl) : AV → List (List AV) → Prop
  | ro {es} : Src T (.ro es) es
  | rof {es} : Src T (.rof es) es
  | nil : Src T (.v (.slice none 0 0)) []
  | sl {r k off len e es rows} (hT : T.slots[r]? = some (k, .own e es)) (hr : ((es.drop off).take len).map (·.map ldc) = rows) : Src T (.sl r k off len) rows
theorem ldc_flatten (es : List (List AV)) : (es.map (·.map ldc)).flatten = es.flatten.map ldc := by
  rw [List.map_flatten]
theorem src_cells {S : Nat → Prop} {vals : List Value} {bss : List (List Nat)} {w : World} (hm : Mem C T S vals bss w) {y : AV} {rows : List (List AV)} (h : Src T y rows) {u : Value} (hu : TmpOK C.P S w T vals u y) :
    ∃ A c us sz, u = .slice A rows.length c ∧ (∀ r ∈ rows, r.length = sz) ∧ rows.length ≤ c ∧ c ≤ maxLen ∧ RL (Rep C.P S w []) us rows.flatten ∧ (0 < us.length → ∃ g o, A = some ⟨g, o, none⟩ ∧ ∀ j u, us[j]? = some u → w.cell? ⟨g, o + j, none⟩ = some u) := by
  cases h with
  | ro =>
    obtain ⟨-, A, c, sz, us, e, h1, h2, h3, h4, h5, h6⟩ := hu.ro.ro_inv
    exact ⟨A, c, us, sz, e, h3, h1, h2, ⟨h5, h6⟩, fun hn => by obtain ⟨g, o, e, _, hc⟩ := h4 hn; exact ⟨g, o, e, hc⟩⟩
  | rof =>
    obtain ⟨-, A, sz, us, e, h2, h3, h4, h5, h6⟩ := (show Rep C.P S w [] u (.rof rows) from hu).rof_inv
    exact ⟨A, _, us, sz, e, h3, Nat.le_refl _, h2, ⟨h5, h6⟩, fun hn => by obtain ⟨g, o, e, _, hc⟩ := h4 hn; exact ⟨g, o, e, hc⟩⟩
  | nil => exact ⟨none, 0, [], 0, hu.v, by simp, Nat.le_refl _, by unfold maxLen; simp, RL.nil, fun h => by simp at h⟩
  | sl hT hr =>
    rename_i r k off len e es
    obtain ⟨v, bs, hv, hb, hrep⟩ := hm.slot hT
    obtain ⟨us, sz, bss', -, hi, hsz, hown, hul, hbl, hc⟩ := hrep.own_inv
    obtain ⟨hol, A, nn, cap, hve, h3, h4, h5, h6⟩ := hu.2.2 e es v sz hT hv hi
    have hlen : rows.length = len := by rw [← hr]; simp; omega
    have hflat : rows.flatten = ((es.flatten.drop (off * sz)).take (len * sz)).map ldc := by rw [← hr, ldc_flatten, flat_cut hsz]
    have hfl := flat_len hsz
    have hrl : RL (Rep C.P S w []) ((us.drop (off * sz)).take (len * sz)) rows.flatten := by
      rw [hflat]
      refine ⟨by rw [List.length_map, List.length_take, List.length_take, List.length_drop, List.length_drop, hul], fun i u x hu hx => ?_⟩
      rw [List.getElem?_map, List.getElem?_take] at hx
      rw [List.getElem?_take] at hu
      split at hu
      · rename_i hlt
        rw [if_pos hlt, List.getElem?_drop] at hx
        rw [List.getElem?_drop] at hu
        cases hq : es.flatten[off * sz + i]? with
        | none => rw [hq] at hx; cases hx
        | some x0 =>
          rw [hq] at hx
          simp at hx
          subst hx
          have hlt2 : off * sz + i < bss'.length := by rw [hbl]; exact (List.getElem?_eq_some_iff.1 hu).1
          exact (hc _ u x0 _ hu hq (List.getElem?_eq_getElem hlt2)).ldc
      · cases hu
    have hread : 0 < ((us.drop (off * sz)).take (len * sz)).length → ∃ g o, ∀ A', (off = 0 → A' = A) → (∀ g, 0 < off → A = some ⟨g, 0, none⟩ → A' = some ⟨g, off * sz, none⟩) → A' = some ⟨g, o, none⟩ ∧ ∀ j u, ((us.drop (off * sz)).take (len * sz))[j]? = some u → w.cell? ⟨g, o + j, none⟩ = some u := fun hn => by
      rcases hown.2 with ⟨hnil, h0⟩ | ⟨g, cap', cur, hcap, -, hg, -⟩
      · exfalso
        have : es = [] := List.eq_nil_of_length_eq_zero h0
        rw [this] at hul
        simp at hul
        rw [hul] at hn
        simp at hn
      · rw [hve] at hcap
        injection hcap with e1 e2 e3
        refine ⟨g, off * sz, fun A' ha hb' => ⟨?_, fun j u hu => ?_⟩⟩
        · rcases Nat.eq_zero_or_pos off with h0 | h0
          · rw [ha h0, e1, h0, Nat.zero_mul]
          · exact hb' g h0 e1
        · rw [List.getElem?_take] at hu
          split at hu
          · rw [List.getElem?_drop] at hu
            have := hown.cells (g := g) (by rw [hve, e1]; rfl) _ _ hu
            rw [add_off, Nat.zero_add] at this
            exact this
          · cases hu
    rw [hlen]
    have hrs : ∀ r ∈ rows, r.length = sz := fun r hr' => by
      rw [← hr] at hr'
      obtain ⟨x, hx, rfl⟩ := List.mem_map.1 hr'
      rw [List.length_map]
      exact hsz x (List.mem_of_mem_drop (List.mem_of_mem_take hx))
    rcases h6 with ⟨h7, h8⟩ | ⟨A', -, h7, h8⟩
    · refine ⟨A, cap, _, sz, h8, hrs, by omega, h5, hrl, fun hn => ?_⟩
      obtain ⟨g, o, hgo⟩ := hread hn
      obtain ⟨h9, h10⟩ := hgo A (fun _ => rfl) (fun g h0 _ => by omega)
      exact ⟨g, o, h9, h10⟩
    · refine ⟨A', cap - off, _, sz, h7, hrs, by omega, by omega, hrl, fun hn => ?_⟩
      have hlp : 0 < len := by
        rcases Nat.eq_zero_or_pos len with h | h
        · rw [h] at hn; simp at hn
        · exact h
      obtain ⟨g', hA, hA'⟩ := h8 hlp
      obtain ⟨g, o, hgo⟩ := hread hn
      obtain ⟨h9, h10⟩ := hgo A' (fun h0 => by rw [hA, hA', h0, Nat.zero_mul]) (fun g2 h0 hh => by rw [hA] at hh; injection hh with hh; injection hh with hh; rw [hA', hh])
      exact ⟨g, o, h9, h10⟩

theorem run_append_of_nil {P : Program} (w : World) (t ty e : TypeId) {size : Nat} (ht : P.underlying t = some (.slice e)) (hs : sizeIs P e size)
    (v : Value) (n : Nat) (xs : List Value) (hown : w.ownsRow 0 e size v n xs) (A : Option Addr) (c : Nat) (hA : A = none ∨ ∃ a, A = some a) : (Builtin.append_ #[t, t] ty #[v, .slice A 0 c]).run P w = .ok v w := by
  have hf : (Builtin.firstCells size 0 (.slice A 0 c)).run P w = .ok #[] w := by
    rcases hA with rfl | ⟨a, rfl⟩
    · simp [Builtin.firstCells]
    · have := run_loadCells_list (P := P) w a [] (by simp)
      simp only [List.length_nil] at this
      simp [Builtin.firstCells, this]
  have h1 := run_sizeOf hs w
  rcases hown.2 with ⟨rfl, rfl⟩ | ⟨g, cap, cur, rfl, _, _, hnc, _⟩
  · simp [Builtin.append_, run_underlying ht, h1, Builtin.lenOf, hf]
  · simp [Builtin.append_, run_underlying ht, h1, Builtin.lenOf, hf, hnc, storeCells]
/-- append onto an owned row, or onto nil. -/
theorem run_app {P : Program} {S : Nat → Prop} {w : World} {t e ty : TypeId} {z : Value} {sz b : Nat} (ht : P.underlying t = some (.slice e)) (hz : zeroIs P e z sz b) (h0 : 0 < sz) {bs : List Nat} {v : Value} {es rows : List (List AV)}
    (h : Rep P S w bs v (.own e es)) (hnd : bs.Nodup) (hap : ∀ q ∈ bs, ¬ S q) (hrs : ∀ r ∈ rows, r.length = sz) {A : Option Addr} {c : Nat} {us : List Value} (hr : RL (Rep P S w []) us rows.flatten) (hc : 0 < us.length → ∃ g o, A = some ⟨g, o, none⟩ ∧ ∀ j u, us[j]? = some u → w.cell? ⟨g, o + j, none⟩ = some u)
    (hlen : (es.length + rows.length) * b ≤ 140737488355328) (hml : es.length + rows.length ≤ maxLen) :
    ∃ v' w' bs', (Builtin.append_ #[t, t] ty #[v, .slice A rows.length c]).run P w = .ok v' w' ∧ Rep P S w' bs' v' (.own e (es ++ rows)) ∧ bs'.Nodup ∧ (∀ q ∈ bs', q ∈ bs ∨ w.heap.size ≤ q) ∧ Kept (fun q => q ∉ bs) w w' := by
  obtain ⟨us0, sz0, bss, rfl, hi, hsz, hown, hul, hbl, hcc⟩ := h.own_inv
  have := hi.inj hz.size
  subst this
  have hfl := flat_len hsz
  have hfr := flat_len hrs
  by_cases hn : rows = []
  · subst hn
    have hu0 : us = [] := List.eq_nil_of_length_eq_zero (by rw [hr.1]; rfl)
    refine ⟨v, w, _, run_append_of_nil w t ty e ht hz.size v _ us0 hown A c (by cases A with | none => exact .inl rfl | some a => exact .inr ⟨a, rfl⟩), by rw [List.append_nil]; exact h, hnd, fun q hq => .inl hq, Kept.refl _ _⟩
  have hrp : 0 < rows.length := by
    rcases Nat.eq_zero_or_pos rows.length with h | h
    · exact absurd (List.eq_nil_of_length_eq_zero h) hn
    · exact h
  have husl : us.length = rows.length * sz0 := by rw [hr.1, hfr]
  obtain ⟨g, oo, rfl, hcell⟩ := hc (by rw [husl]; exact Nat.mul_pos hrp h0)
  obtain ⟨hzi, hz2, hz3⟩ := hz
  obtain ⟨i, hii, hz0, hz1, hz4⟩ := info_parts hzi
  obtain ⟨v', w', hrun, ho, hg, -, hb'⟩ := run_append_own_at (P := P) w 0 t ty e i z sz0 b ht hii hz0 hz1 hz4 hz2 h0 v es.length us0 hown ⟨g, oo, none⟩ rows.length c us husl (fun j u hu => by rw [add_off]; exact hcell j u hu)
    (fun u hu => by
      obtain ⟨q, hq, rfl⟩ := List.getElem_of_mem hu
      exact (hr.2 q _ (rows.flatten[q]'(by rw [← hr.1]; exact hq)) (List.getElem?_eq_getElem _) (List.getElem?_eq_getElem _)).one) hml hlen (Nat.zero_le _)
  have hk : Kept (fun q => some q ≠ v.ownBlock) w w' := (Kept.refl _ _).grown hg fun k hk => .inl fun h => h hk.symm
  rw [List.nodup_append] at hnd
  obtain ⟨nd1, nd2, nd3⟩ := hnd
  have hvS : ∀ k, k < w.heap.size → S k → some k ≠ v.ownBlock := fun k _ hk he => hap k (List.mem_append_left _ (by rw [← he]; simp)) hk
  refine ⟨v', w', v'.ownBlock.toList ++ (bss ++ List.replicate us.length []).flatten, hrun, ?_, ?_, ?_, ?_⟩
  · refine Rep.own (us := us0 ++ us) hi ?_ (by rw [List.length_append]; exact ho) (by simp [hul, hr.1]) (by simp [hbl]) fun q u x bq h1 h2 h3 => ?_
    · intro x hx
      rcases List.mem_append.1 hx with h | h
      · exact hsz x h
      · exact hrs x h
    · rw [List.flatten_append] at h2
      by_cases hq : q < us0.length
      · rw [List.getElem?_append_left hq] at h1
        rw [List.getElem?_append_left (by rw [← hul]; exact hq)] at h2
        rw [List.getElem?_append_left (by rw [hbl]; exact hq)] at h3
        refine (hcc q u x bq h1 h2 h3).kept hk hvS fun b' hb' he => ?_
        exact nd3 b' (by rw [← he]; simp) b' (List.mem_flatten.2 ⟨bq, List.mem_of_getElem? h3, hb'⟩) rfl
      · rw [List.getElem?_append_right (by omega)] at h1
        rw [List.getElem?_append_right (by rw [← hul]; omega), ← hul] at h2
        rw [List.getElem?_append_right (by rw [hbl]; omega), hbl] at h3
        have : bq = [] := by rw [List.getElem?_replicate] at h3; split at h3 <;> simp_all
        subst this
        exact (hr.2 _ u x h1 h2).kept hk hvS (by simp)
  · rw [List.flatten_append, List.flatten_replicate_nil, List.append_nil, List.nodup_append]
    refine ⟨by cases v'.ownBlock <;> simp, nd2, fun a ha b hb he => ?_⟩
    subst he
    rcases hb' with h1 | h1
    · rw [h1] at ha; exact nd3 a ha a hb rfl
    · rw [h1] at ha
      simp at ha
      subst ha
      have := h.lt _ (List.mem_append_right _ hb)
      omega
  · intro q hq
    rw [List.flatten_append, List.flatten_replicate_nil, List.append_nil] at hq
    rcases List.mem_append.1 hq with h2 | h2
    · rcases hb' with h1 | h1
      · rw [h1] at h2; exact .inl (List.mem_append_left _ h2)
      · rw [h1] at h2; simp at h2; right; omega
    · exact .inl (List.mem_append_right _ h2)
  · exact hk.mono fun k _ hk' he => hk' (List.mem_append_left _ (by rw [← he]; simp))
/-- append onto a slot. -/
theorem op_app {t e : TypeId} {y s : Operand} {z : Value} {sz b : Nat} {r k : Nat} {es rows : List (List AV)} {sv : AV} (ho : o.op = .call { callee := .builtin .append, args := #[y, s], argTypes := #[t, t] }) {len : Nat} (hy : ev y = .sl r k 0 len) (hs : ev s = sv) (hT : T.slots[r]? = some (k, .own e es)) (hl : len = es.length) (hsrc : Src T sv rows)
    (ht : C.P.underlying t = some (.slice e)) (hz : zeroIs C.P e z sz b) (h0 : 0 < sz) (hsz : ∀ x ∈ rows, x.length = sz) (hb : (es.length + rows.length) * b ≤ 140737488355328) (hb0 : 0 < b) {es' : List (List AV)} (he : es ++ rows = es') {n : Nat} (hn : es.length + rows.length = n) :
    OpJ C o ev T (.sl r T.ep 0 n) ⟨T.slots.set r (T.ep, .own e es'), T.ep + 1⟩ := by
  intro a w S vals bss hm h K hK Q
  have h1 := h y (by simp [ho, Op.operands, Call.operands])
  have h2 := h s (by simp [ho, Op.operands, Call.operands])
  rw [hy] at h1
  rw [hs] at h2
  obtain ⟨v, bs, hv, hbb, hrep⟩ := hm.slot hT
  obtain ⟨A, c, us, sz', e1, h3, h4, h5, h6, h7⟩ := src_cells hm hsrc h2
  have hmax : es.length + rows.length ≤ maxLen := by
    have := Nat.le_mul_of_pos_right (es.length + rows.length) hb0
    unfold maxLen
    omega
  obtain ⟨v', w', bs', hrun, hrep', hnd, hsub, hk⟩ := run_app (P := C.P) (ty := o.type) ht hz h0 hrep (hm.nodup r bs hbb) (hm.apart r bs hbb) hsz (A := A) (c := c) h6 h7 hb hmax
  obtain ⟨us0, sz0, bss0, -, hi0, hsz0, hown, -⟩ := hrep.own_inv
  obtain ⟨hol, A0, nn, cap, hve, g3, g4, g5, g6⟩ := h1.2.2 e es v sz0 hT hv hi0
  have hyv : a.eval y = v := by
    rcases g6 with ⟨-, h8⟩ | ⟨A', h8, _⟩
    · rw [h8, hve, hl]
      rcases hown.2 with ⟨hnil, h0'⟩ | ⟨g, cap', cur, hcap, -⟩
      · rw [hve] at hnil; injection hnil with q1 q2 q3; rw [q2, h0']
      · rw [hve] at hcap; injection hcap with q1 q2 q3; rw [q2]
    · omega
  rw [he] at hrep'
  obtain ⟨hm', hf⟩ := hm.set (k' := T.ep) (ep' := T.ep + 1) hT hv hbb hk hrep' hnd hsub (.inr ⟨rfl, rfl⟩)
  unfold Oper.wp execOp
  simp only [ho, resolve, invoke, builtin, Sem.run_bind, Sem.run_pure, Result.andThen_ok, List.map_toArray, List.map_cons, List.map_nil, hyv, e1, hrun]
  refine hK v' _ _ _ _ hm' hf ⟨by simp, hrep'.one, fun e2 es2 v2 sz2 q1 q2 q3 => ?_⟩
  have hrl : r < T.slots.length := (List.getElem?_eq_some_iff.1 hT).1
  have q1 : (T.slots.set r _)[r]? = _ := q1
  rw [getElem?_set_ _ _ _ _ hrl, if_pos rfl] at q1
  rw [getElem?_set_ _ _ _ _ (by rw [hm.nv]; exact hrl), if_pos rfl] at q2
  injection q1 with q1; injection q1 with _ q1; injection q1 with q1 q4
  injection q2 with q2
  subst q1; subst q2; subst q4
  obtain ⟨us1, sz1, bss1, -, hi1, hsz1, hown1, -⟩ := hrep'.own_inv
  have hel : es'.length = n := by rw [← he, List.length_append, hn]
  refine ⟨by omega, ?_⟩
  rcases hown1.2 with ⟨hnil, h0'⟩ | ⟨g, cap', cur, hcap, -, -, p1, p2, -⟩
  · exact ⟨none, 0, 0, hnil, by omega, Nat.le_refl _, by unfold maxLen; omega, .inl ⟨rfl, by rw [hnil, show n = 0 by omega]⟩⟩
  · exact ⟨_, _, _, hcap, by omega, p1, p2, .inl ⟨rfl, by rw [hcap, hel]⟩⟩
end
end Go.Proofs.Ytngfknoddphhaaa
