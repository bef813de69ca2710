import Derived.Test.YtjgbbffcjbmjmaaAbC
namespace Go.Proofs.Ytjgbbffcjbmjmaa
open Go.RowKit
set_option linter.unusedSimpArgs false
set_option linter.unusedVariables false

section
variable {C : Cx} {o : Oper} {ev : Operand → AV} {T : Sl} {t yt : TypeId} {p q : Operand} {k k' : IntKind} {x y z : Int}
theorem op_shr (ho : o.op = .binOp .shr t p q yt) (hp : ev p = .v (.int k x)) (hq : ev q = .v (.int k' y)) (h0 : 0 ≤ y) (hz : x.fdiv (2 ^ (min y.toNat k.bits)) = z) : OpP C o ev T (.v (.int k z)) :=
  op_bin ho hp hq (fun w => by unfold eqGuard; simp) (fun w => by simp [binOp, Op.shift, hz, show ¬ y < 0 by omega]) rfl
theorem op_and (ho : o.op = .binOp .and t p q yt) (hp : ev p = .v (.int k x)) (hq : ev q = .v (.int k y)) (hz : k.wrap ((BitVec.ofInt k.bits x &&& BitVec.ofInt k.bits y).toNat) = z) : OpP C o ev T (.v (.int k z)) :=
  op_bin ho hp hq (eqGuard_int _ _ _ _ _ _ _) (fun w => by simp only [binOp, Op.intBits, hz, ne_eq, not_true_eq_false, if_false]; rfl) rfl
end
end Go.Proofs.Ytjgbbffcjbmjmaa
namespace Go.Proofs.Ytjgbbffcjbmjmaa
open Go.RowKit
set_option linter.unusedSimpArgs false
set_option linter.unusedVariables false

/-! ### What is known is said otherwise: nil is an empty list -/
inductive Le1 : AV → AV → Prop
  | same {x} : Le1 x x
  | nil : Le1 (.v (.slice none 0 0)) (.ro [])
theorem Le1.rep {P : Program} {S : Nat → Prop} {w : World} {bs : List Nat} {u : Value} {x y : AV} (h : Le1 x y) (hr : Rep P S w bs u x) : Rep P S w bs u y := by
  cases h with
  | same => exact hr
  | nil =>
    obtain ⟨rfl, rfl, _⟩ := hr.v_inv
    exact rep_ro_nil
section
variable {C : Cx} {σ : Sta}
theorem Gh.slot {e : TypeId} {es es' : List (List AV)} {r k : Nat} (hT : σ.T.slots[r]? = some (k, .own e es)) (hl : es'.map List.length = es.map List.length) (hle : RL Le1 es.flatten es'.flatten) : Gh C σ ⟨σ.env, ⟨σ.T.slots.set r (k, .own e es'), σ.T.ep⟩, σ.n⟩ := by
  intro a w ⟨hd, hn, S, vals, bss, hm, he⟩
  obtain ⟨v, bs, hv, hb, hrep⟩ := hm.slot hT
  have hlen : es'.length = es.length := by have := congrArg List.length hl; simpa using this
  have hrep' : Rep C.P S w bs v (.own e es') := by
    obtain ⟨us, sz, bss', rfl, hi, hsz, hown, hul, hbl, hc⟩ := hrep.own_inv
    refine .own hi (fun x hx => ?_) (by rw [hlen]; exact hown) (by rw [hul]; exact hle.1) hbl fun i u x b h1 h2 h3 => ?_
    · have h1 : x.length ∈ es'.map List.length := List.mem_map_of_mem hx
      rw [hl] at h1
      obtain ⟨y, hy, h2⟩ := List.mem_map.1 h1
      rw [← h2]; exact hsz y hy
    · have hlt : i < es.flatten.length := by rw [hle.1]; exact (List.getElem?_eq_some_iff.1 h2).1
      have h4 := List.getElem?_eq_getElem hlt
      exact (hle.2 i _ x h4 h2).rep (hc i u _ b h1 h4 h3)
  obtain ⟨hm', hf⟩ := hm.set hT hv hb (Kept.refl _ _) hrep' (hm.nodup r bs hb) (fun b h => .inl h) (.inl ⟨rfl, rfl, rfl, fun e' es2 h => (by injection h with h1 h2; subst h1; subst h2; exact ⟨es, rfl, hlen.symm⟩), fun b ks h => (by cases h)⟩)
  exact ⟨hd, hn, S, _, _, hm', fun t ht => TmpOK.follows hf (he t ht)⟩
theorem Gh.tmp {cs cs' : List AV} (t : Nat) (ht : t < σ.n) (hv : σ.env t = .agg cs) (hle : RL Le1 cs cs') : Gh C σ ⟨upd σ.env t (.agg cs'), σ.T, σ.n⟩ := by
  intro a w ⟨hd, hn, S, vals, bss, hm, he⟩
  refine ⟨hd, hn, S, vals, bss, hm, fun q hq => ?_⟩
  show TmpOK _ _ _ _ _ _ (upd σ.env t _ q)
  unfold upd
  by_cases h : q = t
  · subst h
    rw [if_pos rfl]
    have h1 := he q hq
    rw [hv] at h1
    obtain ⟨us, e, rl⟩ := h1
    refine ⟨us, e, rl.1.trans hle.1, fun i u x hu hx => ?_⟩
    have hlt : i < cs.length := by rw [hle.1]; exact (List.getElem?_eq_some_iff.1 hx).1
    have h4 := List.getElem?_eq_getElem hlt
    have h5 := rl.2 i u _ hu h4
    have h6 := hle.2 i _ x h4 hx
    generalize cs[i] = y at h5 h6
    cases h6 with
    | same => exact h5
    | nil => exact Le1.rep .nil (show Rep C.P S w [] u _ from h5)
  · rw [if_neg h]; exact he q hq
end
end Go.Proofs.Ytjgbbffcjbmjmaa
namespace Go.Proofs.Ytjgbbffcjbmjmaa
open Go.RowKit
set_option linter.unusedSimpArgs false
set_option linter.unusedVariables false

/-- Where the fields of a struct lie, and how long they are. -/
def plIs (P : Program) (t : TypeId) (pl : List (Nat × Nat)) : Prop := ∃ fs, P.underlying t = some (.struct fs) ∧ fs.toList.mapM (fun f => (P.info? f.type).map fun i => (f.offset, i.size)) = some pl
theorem op_build2 {C : Cx} {o : Oper} {ev : Operand → AV} {T : Sl} {t : TypeId} {n b : Nat} {z : Value} {ps : Array (Nat × Operand)} {pl : List (Nat × Nat)} (ho : o.op = .build t ps) (hpl : plIs C.P t pl) (hz : zeroIs C.P t z n b) (rows : List (Nat × List AV))
    (hp : ps.toList.map (fun p => (p.1, rowR (ev p.2))) = rows.map (fun p => (p.1, some p.2))) (hr : rows.all (fun p => match pl[p.1]? with | some (off, sz) => p.2.length == sz && off + sz ≤ n | none => false) = true) {xs : List AV} (hx : rows.foldl (fun cs p => splice cs ((pl[p.1]?).getD (0, 0)).1 p.2) (z.cells.toList.map .v) = xs) :
    OpP C o ev T (.agg xs) := by
  obtain ⟨fs, h1, h2⟩ := hpl
  exact op_build ho rows h1 h2 hz hp hr hx
end Go.Proofs.Ytjgbbffcjbmjmaa
namespace Go.Proofs.Ytjgbbffcjbmjmaa
open Go.RowKit
set_option linter.unusedSimpArgs false
set_option linter.unusedVariables false

/-! ### Guarded segments within guarded segments -/
section
variable {C : Cx} {Q : Exit → Sta → Prop} {K : Sta → Prop} {ops : Array Oper} {o : Oper} {l : List Oper} {env : Nat → AV} {T T' : Sl} {n : Nat} {x : AV}
def skipB (ops : Array Oper) (g : Nat) (b : Bool) (c : Nat) (W : List Nat) : List Nat → List Oper → Bool
  | _, [] => true
  | dead, o :: l => (o.guard == some (g, b) || (match o.guard with | some (g2, _) => (match (ops[g2]?).bind (·.dst) with | some d2 => dead.contains d2 | none => false) | none => false)) && (match o.dst with | some t => W.contains t && t != c | none => true) && skipB ops g b c W (o.dst.toList ++ dead) l
theorem skipB_dst {g c : Nat} {b : Bool} {W : List Nat} : ∀ {seg : List Oper} {dead : List Nat}, skipB ops g b c W dead seg = true → ∀ o ∈ seg, ∀ t, o.dst = some t → W.contains t = true ∧ t ≠ c
  | [], _, _, _, h => by cases h
  | p :: seg, dead, h, o, ho => by
    unfold skipB at h
    simp only [Bool.and_eq_true] at h
    rcases List.mem_cons.1 ho with rfl | ho
    · intro t ht
      have h2 := h.1.2
      rw [ht] at h2
      simpa using h2
    · exact skipB_dst h.2 o ho
theorem wpQuiet_skip2 {P : Program} {D : World → Prop} {Q : Act → Prop} {g d : Nat} {W : List Nat} {o' : Oper} {b : Bool} (ho' : ops[g]? = some o') (hd : o'.dst = some d) : ∀ (seg : List Oper) (dead : List Nat) (a : Act), d < a.tmps.size → a.eval (.tmp d) = .bool b → skipB ops g (!b) d W dead seg = true → (∀ t ∈ dead, a.tmps.getD t undef = undef) →
    (∀ a', a'.defers = a.defers → a'.tmps.size = a.tmps.size → (∀ t, (∀ o ∈ seg, o.dst ≠ some t) → a'.tmps.getD t undef = a.tmps.getD t undef) → Q a') → wpQuiet P ops D Q seg a
  | [], _, a, _, _, _, _, h => h a rfl rfl fun _ _ => rfl
  | o :: seg, dead, a, hlt, hb, hs, hdead, h => by
    have hs0 := hs
    unfold skipB at hs
    simp only [Bool.and_eq_true, Bool.or_eq_true, beq_iff_eq] at hs
    obtain ⟨⟨hg, hdst⟩, hs'⟩ := hs
    have hne : o.dst ≠ some d := fun e => (skipB_dst hs0 o (by simp) d e).2 rfl
    have hw : ¬ Region.wanted o (yielded ops a.tmps) = true := by
      rcases hg with hg | hg
      · simp [Act.eval, hlt] at hb
        simp [Region.wanted, hg, yielded, ho', hd, hlt, hb]
      · split at hg
        · rename_i g2 b2 hgd
          split at hg
          · rename_i d2 hd2
            have hm : d2 ∈ dead := by simpa using hg
            have hu := hdead d2 hm
            have e : yielded ops a.tmps g2 = none := by
              obtain ⟨o2, h1, h2⟩ := Option.bind_eq_some_iff.1 hd2
              rcases Nat.lt_or_ge d2 a.tmps.size with h3 | h3
              · simp [h3] at hu
                simp [yielded, h1, h2, h3, hu, undef]
              · simp [yielded, h1, h2, h3]
            simp [Region.wanted, hgd, e]
          · cases hg
        · cases hg
    unfold wpQuiet
    rw [if_neg hw]
    have hsame : (a.put o.dst undef).tmps.getD d undef = a.tmps.getD d undef := by
      rw [Act.getD_put, if_neg]; intro h; exact hne h.1
    refine wpQuiet_skip2 ho' hd seg (o.dst.toList ++ dead) _ (by rw [Act.size_put]; exact hlt) (by show (a.put o.dst undef).tmps.getD d undef = _; rw [hsame]; exact hb) hs' (fun t ht => ?_) fun a' h1 h2 h3 => h a' (by rw [h1, Act.defers_put]) (by rw [h2, Act.size_put]) fun t ht => ?_
    · rw [Act.getD_put]
      split
      · rfl
      · rename_i hn'
        rcases List.mem_append.1 ht with h5 | h5
        · have h6 : o.dst = some t := by simpa using h5
          by_cases h7 : t < a.tmps.size
          · exact absurd ⟨h6, h7⟩ hn'
          · simp [h7]
        · exact hdead t h5
    · rw [h3 t fun o h => ht o (by simp [h]), Act.getD_put, if_neg]
      intro hh; exact ht o (by simp) hh.1
/-- a && b: seg reckons b. -/
theorem aqAndN {σ : Sta} (seg rest : List Oper) (p : Oper) (W : List Nat) {g c d pd : Nat} {b : Bool} {b2 : Bool} {o' : Oper} (hl : l = seg ++ p :: rest) (ho' : ops[g]? = some o') (hd : o'.dst = some c) (hc : c < σ.n) (hv : σ.env c = .v (.bool b)) (hs : skipB ops g true c W [] seg = true) (hp : p.op = .pick (.tmp c) (.tmp d) (.const (.bool false))) (hpg : p.guard = none) (hpd : p.dst = some pd) (hdn : d < σ.n) (hcW : W.contains c = false)
    (h1 : b = true → AQ C ops (segK σ W d b2) seg σ) (h2 : AQ C ops K rest ⟨upd (era W σ.env) pd (.v (.bool (b && b2))), σ.T, σ.n⟩) : AQ C ops K l σ := by
  subst hl
  intro a w S vals bss hst
  refine wpQuiet_append _ _ _ ?_
  have hseg := skipB_dst hs
  have hcv := hst.st.bool (c := .tmp c) (t := b) (by simpa [noneBig] using hc) rfl hv
  have fin : ∀ (a' : Act) (σ' : Sta), StI C σ' a' w S vals bss → σ'.T = σ.T → σ'.n = σ.n → (∀ t, W.contains t = false → σ'.env t = σ.env t) → (b = true → a'.eval (.tmp d) = .bool b2) → wpQuiet C.P ops (fun w' => Kept (fun _ => True) w w') (fun a' => ∃ σ', StI C σ' a' w S vals bss ∧ K σ') (p :: rest) a' := by
    intro a' σ' hs' hT hn hW hd'
    have hcv' := hs'.st.bool (c := .tmp c) (t := b) (by simp [noneBig, hn, hc]) rfl (show evA σ'.env (.tmp c) = _ by show σ'.env c = _; rw [hW c hcW]; exact hv)
    unfold wpQuiet
    rw [if_pos (by simp [Region.wanted, hpg])]
    refine ⟨.bool (b && b2), fun w' _ => ?_, ?_⟩
    · unfold Oper.quietAt
      have : (execOp a'.eval p).run C.P w' = .ok (.value (.bool (b && b2))) w' := by
        simp only [execOp, hp, hcv', asBool, Sem.run_bind, Sem.run_pure, Result.andThen_ok]
        cases b
        · rfl
        · rw [hd' rfl]; rfl
      rw [this]
      exact ⟨rfl, rfl⟩
    · have h3 := (hs'.era (σ' := σ) hT hn W hW).put (d := p.dst) (v := .bool (b && b2)) (x := .v (.bool (b && b2))) (TmpOK.v_ rfl)
      rw [hpd] at h3 ⊢
      exact h2 _ _ _ _ _ h3
  cases b with
  | true =>
    refine wpQuiet_mono ?_ _ _ (h1 rfl a w S vals bss hst)
    rintro a' ⟨σ', hs', e1, e2, e3, e4⟩
    refine fin a' σ' hs' e1 e2 e4 fun _ => ?_
    exact hs'.st.bool (c := .tmp d) (by simp [noneBig, e2, hdn]) rfl e3
  | false =>
    refine wpQuiet_skip2 (b := false) (W := W) ho' hd seg [] a (by rw [hst.2.1]; exact hc) hcv hs (fun t h => by cases h) fun a' q1 q2 q3 => ?_
    have hst' : StI C ⟨era W σ.env, σ.T, σ.n⟩ a' w S vals bss := by
      refine ⟨by rw [q1]; exact hst.1, by rw [q2]; exact hst.2.1, hst.2.2.1, fun t ht => ?_⟩
      show TmpOK _ _ _ _ _ _ (era W σ.env t)
      unfold era
      cases hcc : W.contains t
      · rw [if_neg (by simp), q3 t fun o ho h => by have := (hseg o ho t h).1; rw [hcc] at this; cases this]
        exact hst.2.2.2 t ht
      · rw [if_pos rfl]; exact TmpOK.any_
    refine fin a' _ hst' rfl rfl (fun t ht => ?_) (fun h => by cases h)
    show era W σ.env t = σ.env t
    unfold era
    rw [if_neg (by rw [ht]; simp)]
/-- a || b -/
theorem aqOrN {σ : Sta} (seg rest : List Oper) (p : Oper) (W : List Nat) {g c d pd : Nat} {b : Bool} {b2 : Bool} {o' : Oper} (hl : l = seg ++ p :: rest) (ho' : ops[g]? = some o') (hd : o'.dst = some c) (hc : c < σ.n) (hv : σ.env c = .v (.bool b)) (hs : skipB ops g false c W [] seg = true) (hp : p.op = .pick (.tmp c) (.const (.bool true)) (.tmp d)) (hpg : p.guard = none) (hpd : p.dst = some pd) (hdn : d < σ.n) (hcW : W.contains c = false)
    (h1 : b = false → AQ C ops (segK σ W d b2) seg σ) (h2 : AQ C ops K rest ⟨upd (era W σ.env) pd (.v (.bool (b || b2))), σ.T, σ.n⟩) : AQ C ops K l σ := by
  subst hl
  intro a w S vals bss hst
  refine wpQuiet_append _ _ _ ?_
  have hseg := skipB_dst hs
  have hcv := hst.st.bool (c := .tmp c) (t := b) (by simpa [noneBig] using hc) rfl hv
  have fin : ∀ (a' : Act) (σ' : Sta), StI C σ' a' w S vals bss → σ'.T = σ.T → σ'.n = σ.n → (∀ t, W.contains t = false → σ'.env t = σ.env t) → (b = false → a'.eval (.tmp d) = .bool b2) → wpQuiet C.P ops (fun w' => Kept (fun _ => True) w w') (fun a' => ∃ σ', StI C σ' a' w S vals bss ∧ K σ') (p :: rest) a' := by
    intro a' σ' hs' hT hn hW hd'
    have hcv' := hs'.st.bool (c := .tmp c) (t := b) (by simp [noneBig, hn, hc]) rfl (show evA σ'.env (.tmp c) = _ by show σ'.env c = _; rw [hW c hcW]; exact hv)
    unfold wpQuiet
    rw [if_pos (by simp [Region.wanted, hpg])]
    refine ⟨.bool (b || b2), fun w' _ => ?_, ?_⟩
    · unfold Oper.quietAt
      have : (execOp a'.eval p).run C.P w' = .ok (.value (.bool (b || b2))) w' := by
        simp only [execOp, hp, hcv', asBool, Sem.run_bind, Sem.run_pure, Result.andThen_ok]
        cases b
        · rw [hd' rfl]; rfl
        · rfl
      rw [this]
      exact ⟨rfl, rfl⟩
    · have h3 := (hs'.era (σ' := σ) hT hn W hW).put (d := p.dst) (v := .bool (b || b2)) (x := .v (.bool (b || b2))) (TmpOK.v_ rfl)
      rw [hpd] at h3 ⊢
      exact h2 _ _ _ _ _ h3
  cases b with
  | false =>
    refine wpQuiet_mono ?_ _ _ (h1 rfl a w S vals bss hst)
    rintro a' ⟨σ', hs', e1, e2, e3, e4⟩
    refine fin a' σ' hs' e1 e2 e4 fun _ => ?_
    exact hs'.st.bool (c := .tmp d) (by simp [noneBig, e2, hdn]) rfl e3
  | true =>
    refine wpQuiet_skip2 (b := true) (W := W) ho' hd seg [] a (by rw [hst.2.1]; exact hc) hcv hs (fun t h => by cases h) fun a' q1 q2 q3 => ?_
    have hst' : StI C ⟨era W σ.env, σ.T, σ.n⟩ a' w S vals bss := by
      refine ⟨by rw [q1]; exact hst.1, by rw [q2]; exact hst.2.1, hst.2.2.1, fun t ht => ?_⟩
      show TmpOK _ _ _ _ _ _ (era W σ.env t)
      unfold era
      cases hcc : W.contains t
      · rw [if_neg (by simp), q3 t fun o ho h => by have := (hseg o ho t h).1; rw [hcc] at this; cases this]
        exact hst.2.2.2 t ht
      · rw [if_pos rfl]; exact TmpOK.any_
    refine fin a' _ hst' rfl rfl (fun t ht => ?_) (fun h => by cases h)
    show era W σ.env t = σ.env t
    unfold era
    rw [if_neg (by rw [ht]; simp)]
theorem aqAndN' {g c d pd : Nat} {b b2 : Bool} {p : Oper} {rest : List Oper} {o' : Oper} (seg : List Oper) (W : List Nat) (hl : l = seg ++ p :: rest) (hg0 : (match l with | o :: _ => o.guard | [] => none) = some (g, true)) (ho' : ops[g]? = some o') (hd : o'.dst = some c) (hc : Nat.ble (c + 1) n = true) (hv : env c = .v (.bool b)) (hs : skipB ops g true c W [] seg = true) (hp : p.op = .pick (.tmp c) (.tmp d) (.const (.bool false))) (hpg : p.guard = none) (hpd : p.dst = some pd) (hdn : Nat.ble (d + 1) n = true) (hcW : W.contains c = false)
    (h1 : b = true → AQ C ops (segK ⟨env, T, n⟩ W d b2) (seg.map (ung g true)) ⟨env, T, n⟩) (h2 : AQ C ops K rest ⟨upd (era W env) pd (.v (.bool (b && b2))), T, n⟩) : AQ C ops K l ⟨env, T, n⟩ :=
  aqAndN seg rest p W hl ho' hd (Nat.le_of_ble_eq_true hc) hv hs hp hpg hpd (Nat.le_of_ble_eq_true hdn) hcW (fun hb => AQ.ung ho' hd (Nat.le_of_ble_eq_true hc) (by subst hb; exact hv) (fun o ho h => (skipB_dst hs o ho c h).2 rfl) (h1 hb)) h2
theorem aqOrN' {g c d pd : Nat} {b b2 : Bool} {p : Oper} {rest : List Oper} {o' : Oper} (seg : List Oper) (W : List Nat) (hl : l = seg ++ p :: rest) (hg0 : (match l with | o :: _ => o.guard | [] => none) = some (g, false)) (ho' : ops[g]? = some o') (hd : o'.dst = some c) (hc : Nat.ble (c + 1) n = true) (hv : env c = .v (.bool b)) (hs : skipB ops g false c W [] seg = true) (hp : p.op = .pick (.tmp c) (.const (.bool true)) (.tmp d)) (hpg : p.guard = none) (hpd : p.dst = some pd) (hdn : Nat.ble (d + 1) n = true) (hcW : W.contains c = false)
    (h1 : b = false → AQ C ops (segK ⟨env, T, n⟩ W d b2) (seg.map (ung g false)) ⟨env, T, n⟩) (h2 : AQ C ops K rest ⟨upd (era W env) pd (.v (.bool (b || b2))), T, n⟩) : AQ C ops K l ⟨env, T, n⟩ :=
  aqOrN seg rest p W hl ho' hd (Nat.le_of_ble_eq_true hc) hv hs hp hpg hpd (Nat.le_of_ble_eq_true hdn) hcW (fun hb => AQ.ung ho' hd (Nat.le_of_ble_eq_true hc) (by subst hb; exact hv) (fun o ho h => (skipB_dst hs o ho c h).2 rfl) (h1 hb)) h2
end
end Go.Proofs.Ytjgbbffcjbmjmaa
namespace Go.Proofs.Ytjgbbffcjbmjmaa
open Go.RowKit
set_option linter.unusedSimpArgs false
set_option linter.unusedVariables false

/-! ### Functions that give a pointer to a block of their own -/
def FnB (P : Program) (f : FuncId) (xs : List AV) (e : TypeId) (row : List AV) : Prop :=
  ∀ (w : World) (S : Nat → Prop) (vs : List Value), Came P [] xs w S [] [] vs → Calls P f vs.toArray w fun en w' => ∃ g n cap bs, en = .returned (.pointer (some ⟨g, 0, none⟩)) ∧ Kept (fun _ => True) w w' ∧ bs.Nodup ∧ (∀ b ∈ bs, w.heap.size ≤ b) ∧
    Rep P (fun k => S k ∨ (w.heap.size ≤ k ∧ k < w'.heap.size ∧ k ∉ bs)) w' bs (.slice (some ⟨g, 0, none⟩) n cap) (.own e [row])
def RQB (fn : Func) (e : TypeId) (row : List AV) : Exit → Sta → Prop
  | .normal, σ | .ret, σ => ∃ t r k, fn.results.toList = [.tmp t] ∧ t < σ.n ∧ σ.env t = .ptr r k 0 0 ∧ σ.T.slots[r]? = some (k, .own e [row])
  | _, _ => False
theorem FnB.body {P : Program} {f : FuncId} {fn : Func} {c : Code} {xs : List AV} {e : TypeId} {row : List AV} {n sz : Nat} (hf : P.funcs[f]? = some fn) (hb : fn.body = some c) (hnn : fn.ntmps = n) (hn : xs.length ≤ n) (hsz : sizeIs P e sz)
    (h : ∀ S0 own0 v0 w0, AW ⟨P, S0, own0, v0, w0⟩ c (RQB fn e row) ⟨fun t => xs.getD t .any, ⟨[], 1⟩, n⟩) : FnB P f xs e row := by
  subst hnn
  intro w S vs came
  refine calls_of_wp hf hb ?_
  have hvl : vs.length = xs.length := came.args.1
  have hszz : (vs.toArray ++ Array.replicate (fn.ntmps - vs.toArray.size) undef).size = fn.ntmps := by simp; omega
  have hmem : Mem ⟨P, S, [], [], w⟩ ⟨[], 1⟩ S [] [] w :=
    ⟨Kept.refl _ _, fun _ h => h, fun _ h => .inl h, came.lt, rfl, rfl, fun r k x v bs q1 => by simp at q1, fun r bs q => by simp at q, fun r r' bs bs' _ q => by simp at q, fun r bs q => by simp at q, fun r bs q => by simp at q, fun r x q => by simp at q, fun r k x q => by simp at q, by simp⟩
  refine wp_mono (h S [] [] w { tmps := vs.toArray ++ Array.replicate (fn.ntmps - vs.toArray.size) undef, defers := [] } w ⟨rfl, hszz, S, [], [], hmem, fun t ht => ?_⟩) ?_
  · by_cases hlt : t < xs.length
    · have hx := List.getElem?_eq_getElem hlt
      obtain ⟨u, hu, hr⟩ := came.args.at_ hx
      have e1 : (vs.toArray ++ Array.replicate (fn.ntmps - vs.toArray.size) undef).getD t undef = u := by
        have hu' : vs.toArray[t]? = some u := by simpa using hu
        rw [Array.getD_eq_getD_getElem?, Array.getElem?_append_left (by simp; omega), hu']
        rfl
      show TmpOK P S w _ _ ((vs.toArray ++ Array.replicate (fn.ntmps - vs.toArray.size) undef).getD t undef) (xs.getD t .any)
      rw [e1, List.getD_eq_getElem?_getD, hx]
      exact hr.tmp
    · show TmpOK P S w _ _ ((vs.toArray ++ Array.replicate (fn.ntmps - vs.toArray.size) undef).getD t undef) (xs.getD t .any)
      rw [List.getD_eq_getElem?_getD, List.getElem?_eq_none (by omega)]
      trivial
  · intro en a w' hq
    obtain ⟨σ, ⟨hd, hn', Sf, valsf, bssf, hm, he⟩, hrq⟩ := hq
    have main : (∃ t r k, fn.results.toList = [.tmp t] ∧ t < σ.n ∧ σ.env t = .ptr r k 0 0 ∧ σ.T.slots[r]? = some (k, .own e [row])) → a.defers = [] ∧ ∃ v, (results fn a.tmps).run P w' = .ok v w' ∧ ∃ g n cap bs, Ending.returned v = .returned (.pointer (some ⟨g, 0, none⟩)) ∧ Kept (fun _ => True) w w' ∧ bs.Nodup ∧ (∀ b ∈ bs, w.heap.size ≤ b) ∧
        Rep P (fun k => S k ∨ (w.heap.size ≤ k ∧ k < w'.heap.size ∧ k ∉ bs)) w' bs (.slice (some ⟨g, 0, none⟩) n cap) (.own e [row]) := by
      rintro ⟨t, r, k, h1, h2, h3, h4⟩
      have hp := he t h2
      rw [h3] at hp
      obtain ⟨v, bs, hv, hb', hrep⟩ := hm.slot h4
      obtain ⟨_, g, n, cap, rfl, hu⟩ := hp.2.2 e [row] v sz h4 hv hsz
      have hu0 : a.tmps.getD t undef = .pointer (some ⟨g, 0, none⟩) := by rw [hu]; simp
      refine ⟨hd, _, retV_run (us := [a.tmps.getD t undef]) (by rw [h1]; exact mapM_run rfl (by simp)), g, n, cap, bs, by rw [retV, hu0], hm.kept.mono (fun k _ _ h => (by cases h)), hm.nodup r bs hb', fun b hb2 => ?_, hrep.mono fun k _ hk => ?_⟩
      · rcases hm.mine r bs hb' b hb2 with h | h
        · cases h
        · exact h
      · rcases hm.sub k hk with h | h | h
        · exact .inl h
        · cases h
        · exact .inr ⟨h, hm.lt k hk, fun h' => hm.apart r bs hb' k h' hk⟩
    cases en with
    | normal => exact main hrq
    | ret => exact main hrq
    | exit i => exact hrq.elim
    | goto l => exact hrq.elim
    | panic c => exact hrq.elim
    | outgrown => exact hrq.elim
section
variable {C : Cx} {T : Sl} {o : Oper} {ev : Operand → AV}
theorem op_callB {f : FuncId} {args : Array Operand} {ts : Array TypeId} {xs : List AV} {e : TypeId} {row : List AV} (ho : o.op = .call { callee := .value (.func f), args := args, argTypes := ts }) (hf : Enters C.P f) (hsp : FnB C.P f xs e row) (hv : RL (View T false) (args.toList.map ev) xs) :
    OpJ C o ev T (.ptr T.slots.length T.ep 0 0) (pushT T (.own e [row])) := by
  intro a w S vals bss hm h K hK Q
  have hargs : ∀ y ∈ args, TmpOK C.P S w T vals (a.eval y) (ev y) := fun y hy => h y (by simp [ho, Op.operands, Call.operands]; exact .inr hy)
  have hc := hsp w (lent false S bss) _ (came0 hm hv hargs)
  have hrun : (execOp a.eval o).run C.P w = .ok (.enter f (args.toList.map a.eval).toArray) w := by
    have e1 : (args.map a.eval) = (args.toList.map a.eval).toArray := by apply Array.toList_inj.1; simp
    simp only [execOp, ho, resolve, Act.eval, Deferred.ofValue, Sem.run_bind, Sem.run_pure, Result.andThen_ok, invoke]
    rw [← e1]
    simpa using hf _ w
  unfold Oper.wp
  rw [hrun, Oper.upon_enter]
  refine hc.mono ?_
  rintro en w' ⟨g, n, cap, bs, rfl, hk, hnd, hge, hrep⟩
  simp only
  have hS2 : ∀ k, S k → S k ∨ (w.heap.size ≤ k ∧ k < w'.heap.size ∧ k ∉ bs) := fun k h => .inl h
  have hm1 := (hm.grow hk).more (S' := fun k => S k ∨ (w.heap.size ≤ k ∧ k < w'.heap.size ∧ k ∉ bs)) hS2 fun k h => by
    rcases h with h | ⟨h1, h2, h3⟩
    · exact .inl h
    · refine .inr ⟨.inr (.inr (by have := hm.kept.size; omega)), h2, fun ⟨r, bs, q1, q2⟩ => ?_⟩
      have := hm.blt q1 k q2; omega
  have hf1 : Follows C.P S w T vals (fun k => S k ∨ (w.heap.size ≤ k ∧ k < w'.heap.size ∧ k ∉ bs)) w' T vals := Follows.kept hk (fun _ _ _ => trivial) hS2
  obtain ⟨hm2, hf2⟩ := hm1.push2 (hrep.mono fun k _ h => h.imp (fun h => h.resolve_right (by simp)) id) hnd fun b hb => by
    have hge := hge b hb
    refine ⟨fun ⟨r, bs, q1, q2⟩ => by have := hm.blt q1 b q2; omega, fun h => ?_, .inr (by have := hm.kept.size; omega)⟩
    rcases h with h | h
    · have := hm.lt b h; omega
    · exact h.2.2 hb
  refine hK _ _ _ _ _ hm2 (fun u x h => hf2 u x (hf1 u x h)) ?_
  refine ⟨by simp [pushT], rfl, fun e' es v sz h1 h2 h3 => ?_⟩
  have h1 : (T.slots ++ [(T.ep, AV.own e [row])])[T.slots.length]? = some (T.ep, .own e' es) := h1
  rw [getElem?_snoc, if_neg (by omega), if_pos rfl] at h1
  rw [getElem?_snoc, hm.nv, if_neg (by omega), if_pos rfl] at h2
  injection h1 with h1; injection h1 with _ h1; injection h1 with h1 h4
  injection h2 with h2
  subst h4; subst h2
  exact ⟨by simp, g, n, cap, rfl, by simp⟩
end
/-! ### The whole -/
theorem Fn.top {P : Program} {f : FuncId} {xs : List AV} (h : Fn P f [] xs [.v (.bool true)] []) (w : World) (vs : List Value) (hargs : RL (AggOK P (fun k => k < w.heap.size) w (insT []) []) vs xs) : Calls P f vs.toArray w fun e w' => e = .returned (.bool true) ∧ Below w.heap.size w w' := by
  refine (h w (fun k => k < w.heap.size) [] [] vs ⟨fun _ h => h, rfl, rfl, by simp, ⟨by simp, by simp⟩, fun b ⟨r, bs, q, _⟩ => by simp at q, hargs⟩).mono ?_
  rintro e w' ⟨us, ys, outs, bsr, bss', rfl, went, rfl, rfl⟩
  have hk : Kept (fun _ => True) w w' := went.kept.mono fun k _ _ ⟨r, bs, h, _⟩ => by simp at h
  refine ⟨?_, hk.below⟩
  match us, went.nu with
  | [u], _ =>
    have hr := went.res 0 u (.v (.bool true)) (bsr[0]'(by rw [went.nr]; simp)) rfl rfl (List.getElem?_eq_getElem _)
    rcases hr with h | ⟨_, h⟩
    · rw [retV, h.v_inv.1]
    · rw [retV, (show Rep P _ w' [] u (.v (.bool true)) from h).v_inv.1]
end Go.Proofs.Ytjgbbffcjbmjmaa
namespace Go.Proofs.Ytjgbbffcjbmjmaa
open Go.RowKit
set_option linter.unusedSimpArgs false
set_option linter.unusedVariables false

def notOwn : AV → Bool
  | .own _ _ => false
  | _ => true
theorem unp_id : ∀ (ys : List AV) (T : Sl), ys.all notOwn = true → unp ys T = (ys, T)
  | [], T, _ => rfl
  | y :: ys, T, h => by
    rw [List.all_cons, Bool.and_eq_true] at h
    have e : unp (y :: ys) T = (y :: (unp ys T).1, (unp ys T).2) := by
      cases y <;> first | rfl | cases h.1
    rw [e, unp_id ys T h.2]
/-- A call that leaves the slots as they are. -/
theorem op_callS {C : Cx} {o : Oper} {ev : Operand → AV} {T : Sl} {f : FuncId} {args : Array Operand} {ts : Array TypeId} {xs ys : List AV} (ho : o.op = .call { callee := .value (.func f), args := args, argTypes := ts }) (hf : Enters C.P f) (hsp : Fn C.P f [] xs ys []) (hv : RL (View T false) (args.toList.map ev) xs)
    (hn : ys.all nrefA = true) (hno : ys.all notOwn = true) {x : AV} (hx : packR ys = x) : OpJ C o ev T x T :=
  op_call (b := false) ho hf hsp hv hn (fun h => by cases h) (by rw [unp_id ys T hno]; exact hx) (by rw [unp_id ys T hno])
end Go.Proofs.Ytjgbbffcjbmjmaa
namespace Go.Proofs.Ytjgbbffcjbmjmaa
open Go.RowKit
set_option linter.unusedSimpArgs false
set_option linter.unusedVariables false

theorem lcS : (∀ x, ldc (.v x) = .v x) ∧ (∀ x, ldc (.ro x) = .ro x) ∧ (∀ x, ldc (.rof x) = .rof x) ∧ (∀ x, ldc (.rop x) = .rop x) ∧ (∀ e x, ldc (.own e x) = .sln x.length) ∧ (∀ n, ldc (.sln n) = .sln n) ∧ ldc .any = .any ∧
    (∀ x, stc (.v x) = .v x) ∧ (∀ x, stc (.ro x) = .ro x) ∧ (∀ x, stc (.rof x) = .rof x) ∧ (∀ x, stc (.rop x) = .rop x) ∧ (∀ n, stc (.sln n) = .sln n) ∧ stc .any = .any ∧ (∀ a b c d, stc (.sl a b c d) = .any) ∧ (∀ a b c d, stc (.ptr a b c d) = .any) :=
  ⟨fun _ => rfl, fun _ => rfl, fun _ => rfl, fun _ => rfl, fun _ _ => rfl, fun _ => rfl, rfl, fun _ => rfl, fun _ => rfl, fun _ => rfl, fun _ => rfl, fun _ => rfl, rfl, fun _ _ _ _ => rfl, fun _ _ _ _ => rfl⟩
theorem evS : (∀ (env : Nat → AV) t, evA env (.tmp t) = env t) ∧ (∀ (env : Nat → AV) k n, evA env (.const (.int k n)) = .v (.int k n)) ∧ (∀ (env : Nat → AV) b, evA env (.const (.bool b)) = .v (.bool b)) ∧ (∀ (env : Nat → AV) s, evA env (.const (.string s)) = .v (.string s)) ∧
    (∀ (env : Nat → AV) a n c, evA env (.const (.slice a n c)) = .v (.slice a n c)) ∧ (∀ (env : Nat → AV) f, evA env (.func f) = .v (.func (.func f) #[] #[])) ∧ (∀ (env : Nat → AV) d x, putE env (some d) x = upd env d x) ∧ (∀ (env : Nat → AV) x, putE env none x = env) :=
  ⟨fun _ _ => rfl, fun _ _ _ => rfl, fun _ _ => rfl, fun _ _ => rfl, fun _ _ _ _ => rfl, fun _ _ => rfl, fun _ _ _ => rfl, fun _ _ => rfl⟩
end Go.Proofs.Ytjgbbffcjbmjmaa
namespace Go.Proofs.Ytjgbbffcjbmjmaa
open Go.RowKit
set_option linter.unusedSimpArgs false
set_option linter.unusedVariables false

section
variable {C : Cx} {o : Oper} {ev : Operand → AV} {T : Sl}
/-- x[:k:k] -/
theorem op_slice_full {t e : TypeId} {y q q2 : Operand} {es : List (List AV)} {sz : Nat} (k : Nat) {k1 k2 : IntKind} (ho : o.op = .slice t y none (some q) (some q2)) (hy : ev y = .ro es ∨ ev y = .rof es) (hq : ev q = .v (.int k1 (k : Int))) (hq2 : ev q2 = .v (.int k2 (k : Int))) (h2 : k ≤ es.length) (ht : C.P.underlying t = some (.slice e)) (hs : sizeIs C.P e sz) (hsz : ∀ x ∈ es, x.length = sz)
    {es' : List (List AV)} (he : es.take k = es') : OpP C o ev T (.rof es') := by
  intro a w S vals bss hm h
  have h3 := h y (by simp [ho, Op.operands])
  have h4 : Rep C.P S w [] (a.eval y) (.ro es) := by
    rcases hy with hy | hy
    · rw [hy] at h3; exact h3
    · rw [hy] at h3; exact Rep.ro_of_rof h3
  obtain ⟨-, A, c, sz', us, e1, g1, g2, g3, g4, g5, g6⟩ := h4.ro_inv
  have hv1 := h q (by simp [ho, Op.operands])
  rw [hq] at hv1
  have hv2 := h q2 (by simp [ho, Op.operands])
  rw [hq2] at hv2
  have hb : ∀ w', (Instr.sliceBounds true es.length c none (some (.int k1 (k : Int))) (some (.int k2 (k : Int)))).run C.P w' = .ok (0, k, k) w' := fun w' => by
    have h5 : k ≤ c := Nat.le_trans h2 g1
    simp [Instr.sliceBounds, Instr.sliceBound, asIntOf, h5, Nat.not_lt.2 h5]
  refine ⟨_, fun w' => by simp only [execOp, ho, e1, Sem.run_bind, Option.map_none, Option.map_some, hv1.v, hv2.v, run_slice_ ht hs w' (hb w'), Result.andThen_ok, Sem.run_pure]; rfl, ?_⟩
  subst he
  have hlen : (es.take k).length = k := by rw [List.length_take]; omega
  suffices hfin : Rep C.P S w [] (.slice (if k = 0 then A else A.map (·.add (0 * sz))) (es.take k).length (es.take k).length) (.rof (es.take k)) by
    rw [hlen] at hfin; exact hfin
  have hfl := flat_len hsz
  refine Rep.rof (sz := sz) (us := us.take (k * sz)) (by rw [hlen]; omega) (fun x hx => hsz x (List.mem_of_mem_take hx)) (fun hn => ?_) ?_ ?_
  · have hpos : 0 < us.length := by rw [List.length_take] at hn; omega
    obtain ⟨g, oo, rfl, hS, hc⟩ := g4 hpos
    have hk0 : k ≠ 0 := by
      rintro rfl
      rw [Nat.zero_mul] at hn; simp at hn
    refine ⟨g, oo, ?_, hS, fun j u hu => ?_⟩
    · rw [if_neg hk0, Option.map_some, add_off, Nat.zero_mul, Nat.add_zero]
    · rw [List.getElem?_take] at hu
      split at hu
      · exact hc _ u hu
      · cases hu
  · have := flat_cut hsz 0 k
    simp only [List.drop_zero, Nat.zero_mul] at this
    rw [this, List.length_take, List.length_take, g5]
  · intro i u x hu hx
    have := flat_cut hsz 0 k
    simp only [List.drop_zero, Nat.zero_mul] at this
    rw [this, List.getElem?_take] at hx
    rw [List.getElem?_take] at hu
    split at hu
    · rename_i hlt
      rw [if_pos hlt] at hx
      exact g6 i u x hu hx
    · cases hu
end
end Go.Proofs.Ytjgbbffcjbmjmaa
namespace Go.Proofs.Ytjgbbffcjbmjmaa
open Go.RowKit
set_option linter.unusedSimpArgs false
set_option linter.unusedVariables false

theorem run_app_none_ {P : Program} (w : World) (t ty e : TypeId) {sz : Nat} (ht : P.underlying t = some (.slice e)) (hs : sizeIs P e sz) (A A' : Option Addr) (n c c' : Nat) (h : n ≤ c) : (Builtin.append_ #[t, t] ty #[.slice A n c, .slice A' 0 c']).run P w = .ok (.slice A n c) w := by
  have hf : (Builtin.firstCells sz 0 (.slice A' 0 c')).run P w = .ok #[] w := by
    cases A' with
    | none => exact run_firstCells_none w _ _ _ _
    | some a => exact run_firstCells_some w sz 0 a 0 c' [] (by simp) (by simp)
  have h1 := run_sizeOf hs w
  cases A <;> simp [Builtin.append_, run_underlying ht, h1, Builtin.lenOf, h, hf, storeCells]
section
variable {C : Cx} {o : Oper} {ev : Operand → AV} {T : Sl}
/-- append onto a full slice that is only read. -/
theorem op_app_rof {t e : TypeId} {y s : Operand} {z : Value} {sz b : Nat} {es rows : List (List AV)} {sv : AV} (ho : o.op = .call { callee := .builtin .append, args := #[y, s], argTypes := #[t, t] }) (hy : ev y = .rof es) (hs : ev s = sv) (hsrc : Src T sv rows)
    (ht : C.P.underlying t = some (.slice e)) (hz : zeroIs C.P e z sz b) (h0 : 0 < sz) (hes : ∀ x ∈ es, x.length = sz) (hsz : ∀ x ∈ rows, x.length = sz) (hb : (es.length + rows.length) * b ≤ 140737488355328) (hb0 : 0 < b) {es' : List (List AV)} (he : es ++ rows = es') :
    OpJ C o ev T (.ro es') T := by
  subst he
  intro a w S vals bss hm h K hK Q
  have h1 := h y (by simp [ho, Op.operands, Call.operands])
  have h2 := h s (by simp [ho, Op.operands, Call.operands])
  rw [hy] at h1
  rw [hs] at h2
  obtain ⟨A, c, us, sz', e1, h3, h4, h5, h6, h7⟩ := src_cells hm hsrc h2
  obtain ⟨-, A0, sz0, us0, e2, g2, g3, g4, g5, g6⟩ := (show Rep C.P S w [] (a.eval y) (.rof es) from h1).rof_inv
  have hmax : es.length + rows.length ≤ maxLen := by
    have := Nat.le_mul_of_pos_right (es.length + rows.length) hb0
    unfold maxLen
    omega
  have hfe := flat_len hes
  have hfr := flat_len hsz
  by_cases hn : rows = []
  · subst hn
    have hrun := run_app_none_ (P := C.P) w t o.type e ht hz.size A0 A es.length es.length c (Nat.le_refl _)
    unfold Oper.wp execOp
    simp only [ho, resolve, invoke, builtin, Sem.run_bind, Sem.run_pure, Result.andThen_ok, List.map_toArray, List.map_cons, List.map_nil, e2, e1, List.length_nil, hrun]
    rw [List.append_nil] at hK
    refine hK _ w S vals bss hm Follows.refl ?_
    have := Rep.ro_of_rof (show Rep C.P S w [] (a.eval y) (.rof es) from h1)
    rw [e2] at this
    exact this
  have hrp : 0 < rows.length := by
    rcases Nat.eq_zero_or_pos rows.length with h | h
    · exact absurd (List.eq_nil_of_length_eq_zero h) hn
    · exact h
  have husl : us.length = rows.length * sz := by rw [h6.1, hfr]
  have hus0 : us0.length = es.length * sz := by rw [g5, hfe]
  obtain ⟨g, oo, rfl, hcell⟩ := h7 (by rw [husl]; exact Nat.mul_pos hrp h0)
  obtain ⟨hzi, hz2, hz3⟩ := id hz
  obtain ⟨i, hii, hz0, hz1, hz4⟩ := info_parts hzi
  have key : ∃ v' w', (Builtin.append_ #[t, t] o.type #[.slice A0 es.length es.length, .slice (some ⟨g, oo, none⟩) rows.length c]).run C.P w = .ok v' w' ∧ w'.ownsRow w.heap.size e sz v' (es.length + rows.length) (us0 ++ us) ∧ Kept (fun _ => True) w w' := by
    cases A0 with
    | some b0 =>
      obtain ⟨v', w', hrun, ho', hg⟩ := run_append_arg_grows (P := C.P) w t o.type e i z sz b ht hii hz0 hz1 hz4 hz2 h0 b0 es.length es.length us0 hus0 (fun j u hu => by
        obtain ⟨g1, o1, h, _, hc⟩ := g4 (by have := (List.getElem?_eq_some_iff.1 hu).1; omega)
        injection h with h
        subst h
        rw [add_off]
        exact hc j u hu) ⟨g, oo, none⟩ rows.length c us husl (fun j u hu => by rw [add_off]; exact hcell j u hu) (by omega) hmax hb
      exact ⟨v', w', hrun, ho', (Kept.refl _ _).grown hg (by simp)⟩
    | none =>
      have hu0 : us0 = [] := by
        rcases Nat.eq_zero_or_pos us0.length with h | h
        · exact List.eq_nil_of_length_eq_zero h
        · obtain ⟨_, _, h, _⟩ := g4 h; cases h
      have hl0 : es.length = 0 := by
        subst hu0
        rcases Nat.eq_zero_or_pos es.length with h | h
        · exact h
        · have := Nat.mul_pos h h0; simp at hus0; omega
      subst hu0
      obtain ⟨v', w', hrun, ho', hg, -, -⟩ := run_append_own_at (P := C.P) w w.heap.size t o.type e i z sz b ht hii hz0 hz1 hz4 hz2 h0 (.slice none 0 0) 0 [] ⟨by simp, .inl ⟨rfl, rfl⟩⟩ ⟨g, oo, none⟩ rows.length c us husl (fun j u hu => by rw [add_off]; exact hcell j u hu)
        (fun u hu => by
          obtain ⟨q, hq, rfl⟩ := List.getElem_of_mem hu
          exact (h6.2 q _ (rows.flatten[q]'(by rw [← h6.1]; exact hq)) (List.getElem?_eq_getElem _) (List.getElem?_eq_getElem _)).one) (by omega) (by rw [hl0] at hb; exact hb) (Nat.le_refl _)
      rw [hl0]
      exact ⟨v', w', hrun, ho', (Kept.refl _ _).grown hg fun k hk => by simp [Value.ownBlock] at hk⟩
  obtain ⟨v', w', hrun, hown, hk⟩ := key
  unfold Oper.wp execOp
  simp only [ho, resolve, invoke, builtin, Sem.run_bind, Sem.run_pure, Result.andThen_ok, List.map_toArray, List.map_cons, List.map_nil, e2, e1, hrun]
  have hS2 : ∀ k, S k → S k ∨ (w.heap.size ≤ k ∧ k < w'.heap.size) := fun k h => .inl h
  have hm1 := (hm.grow hk).more (S' := fun k => S k ∨ (w.heap.size ≤ k ∧ k < w'.heap.size)) hS2 fun k h => by
    rcases h with h | ⟨h1, h2⟩
    · exact .inl h
    · refine .inr ⟨.inr (.inr (by have := hm.kept.size; omega)), h2, fun ⟨r, bs, q1, q2⟩ => ?_⟩
      have := hm.blt q1 k q2; omega
  have hf1 : Follows C.P S w T vals (fun k => S k ∨ (w.heap.size ≤ k ∧ k < w'.heap.size)) w' T vals := Follows.kept hk (fun _ _ _ => trivial) hS2
  refine hK v' w' _ vals bss hm1 hf1 ?_
  have hup : ∀ {u : Value} {x : AV}, Rep C.P S w [] u x → Rep C.P (fun k => S k ∨ (w.heap.size ≤ k ∧ k < w'.heap.size)) w' [] u x := fun h => (h.kept hk (fun _ _ _ => trivial) (by simp)).mono fun k _ => hS2 k
  show Rep C.P _ w' [] v' (.ro (es ++ rows))
  have hcs : RL (Rep C.P (fun k => S k ∨ (w.heap.size ≤ k ∧ k < w'.heap.size)) w' []) (us0 ++ us) (es ++ rows).flatten := by
    rw [List.flatten_append]
    exact RL.append ⟨g5, fun q u x q1 q2 => hup (g6 q u x q1 q2)⟩ (h6.mono fun u x => hup)
  rcases hown.2 with ⟨rfl, h9⟩ | ⟨g1, cap, cur, hv, q1, q2, q3, q4, q5⟩
  · exfalso; omega
  · have hcells := hown.cells (g := g1) (by rw [hv]; rfl)
    have hlt := hown.lt g1 (by rw [hv]; rfl)
    rw [hv]
    have e3 : es.length + rows.length = (es ++ rows).length := by rw [List.length_append]
    rw [e3]
    refine Rep.ro (us := us0 ++ us) (sz := sz) (by rw [← e3]; exact q3) q4 (fun x hx => ?_) (fun _ => ⟨g1, 0, rfl, .inr ⟨hlt.1, hlt.2⟩, fun j u hu => by have := hcells j u hu; simpa [add_off] using this⟩) hcs.1 hcs.2
    rcases List.mem_append.1 hx with hx | hx
    · exact hes x hx
    · exact hsz x hx
end
end Go.Proofs.Ytjgbbffcjbmjmaa
namespace Go.Proofs.Ytjgbbffcjbmjmaa
open Go.RowKit
set_option linter.unusedSimpArgs false
set_option linter.unusedVariables false

/-- The rewriting that every step of a walk ends with (all but the simprocs). -/
theorem nzL : (∀ (a b : Nat) (l : List Nat), (a :: l).contains b = (b == a || l.contains b)) ∧ (∀ a : Nat, ([] : List Nat).contains a = false) ∧
    (∀ b, (b || false) = b) ∧ (∀ b, (false || b) = b) ∧ (∀ b, (true || b) = true) ∧ (∀ b, (b || true) = true) ∧ ((false = true) = False) ∧
    (∀ (α : Type) (x d : α) (l : List α), (x :: l).getD 0 d = x) ∧ (∀ (α : Type) (x d : α) (l : List α) n, (x :: l).getD (n + 1) d = l.getD n d) ∧ (∀ (α : Type) (d : α) n, ([] : List α).getD n d = d) ∧
    (∀ (α β : Type) (f : α → β) x l, (x :: l).map f = f x :: l.map f) ∧ (∀ (α β : Type) (f : α → β), [].map f = []) ∧
    (∀ (α : Type) (l : List α), [] ++ l = l) ∧ (∀ (α : Type) (x : α) (l m : List α), (x :: l) ++ m = x :: (l ++ m)) ∧ (∀ (α : Type) (l : List α), l ++ [] = l) ∧
    (∀ (α : Type) (x : α) (l : List α), (x :: l).length = l.length + 1) ∧ (∀ (α : Type), ([] : List α).length = 0) ∧ (∀ (α β : Type) (f : α → β) (l : List α), (l.map f).length = l.length) ∧ (∀ n : Nat, 0 + n = n) ∧
    (∀ (α : Type) (x y : α) (l : List α), (x :: l).set 0 y = y :: l) ∧ (∀ (α : Type) (x y : α) (l : List α) n, (x :: l).set (n + 1) y = x :: l.set n y) ∧
    (∀ (α : Type) (x : α) (l : List α) n, (x :: l).take (n + 1) = x :: l.take n) ∧ (∀ (α : Type) (l : List α), l.take 0 = []) ∧ (∀ (α : Type) n, ([] : List α).take n = []) ∧
    (∀ (α : Type) (x : α) (l : List α) n, (x :: l).drop (n + 1) = l.drop n) ∧ (∀ (α : Type) (l : List α), l.drop 0 = l) ∧ (∀ (α : Type) n, ([] : List α).drop n = []) :=
  ⟨fun _ _ _ => List.contains_cons, fun _ => List.contains_nil, Bool.or_false, Bool.false_or, Bool.true_or, Bool.or_true, Bool.false_eq_true,
    fun _ _ _ _ => rfl, fun _ _ _ _ _ => rfl, fun _ _ _ => rfl, fun _ _ _ _ _ => rfl, fun _ _ _ => rfl, fun _ _ => rfl, fun _ _ _ _ => rfl, fun _ _ => List.append_nil _,
    fun _ _ _ => rfl, fun _ => rfl, fun _ _ _ _ => List.length_map _, Nat.zero_add, fun _ _ _ _ => rfl, fun _ _ _ _ _ => rfl,
    fun _ _ _ _ => rfl, fun _ _ => rfl, fun _ _ => List.take_nil, fun _ _ _ _ => rfl, fun _ _ => rfl, fun _ _ => List.drop_nil⟩
theorem nzA : (∀ (env : Nat → AV) d t x, upd env d x t = if t = d then x else env t) ∧ (∀ W (env : Nat → AV) t, era W env t = if W.contains t then .any else env t) ∧
    (∀ T x, pushT T x = ⟨T.slots ++ [(T.ep, x)], T.ep + 1⟩) ∧ (∀ ins, insT ins = ⟨ins.map fun x => (0, x), 1⟩) ∧
    (∀ (α : Type) (cs : List α) off xs, splice cs off xs = cs.take off ++ xs ++ cs.drop (off + xs.length)) ∧
    (∀ g b o, (ung g b o).dst = o.dst) ∧ (∀ z, packR [z] = z) ∧ packR [] = .tup [] ∧ (∀ x y l, packR (x :: y :: l) = .tup (x :: y :: l)) ∧ (∀ T, unp [] T = ([], T)) ∧
    (∀ e es ys T, unp (.own e es :: ys) T = (.sl T.slots.length T.ep 0 es.length :: (unp ys (pushT T (.own e es))).1, (unp ys (pushT T (.own e es))).2)) ∧
    (∀ x ys T, unp (.v x :: ys) T = (.v x :: (unp ys T).1, (unp ys T).2)) ∧ (∀ x ys T, unp (.ro x :: ys) T = (.ro x :: (unp ys T).1, (unp ys T).2)) ∧ (∀ x ys T, unp (.rof x :: ys) T = (.rof x :: (unp ys T).1, (unp ys T).2)) ∧
    (∀ x ys T, unp (.rop x :: ys) T = (.rop x :: (unp ys T).1, (unp ys T).2)) ∧ (∀ x y ys T, unp (.om x y :: ys) T = (.om x y :: (unp ys T).1, (unp ys T).2)) ∧ (∀ x y ys T, unp (.mp x y :: ys) T = (.mp x y :: (unp ys T).1, (unp ys T).2)) ∧ (∀ x ys T, unp (.agg x :: ys) T = (.agg x :: (unp ys T).1, (unp ys T).2)) ∧ (∀ x ys T, unp (.tup x :: ys) T = (.tup x :: (unp ys T).1, (unp ys T).2)) ∧
    (∀ a b c d ys T, unp (.sl a b c d :: ys) T = (.sl a b c d :: (unp ys T).1, (unp ys T).2)) ∧ (∀ a b c d ys T, unp (.ptr a b c d :: ys) T = (.ptr a b c d :: (unp ys T).1, (unp ys T).2)) ∧
    (∀ x ys T, unp (.sln x :: ys) T = (.sln x :: (unp ys T).1, (unp ys T).2)) ∧ (∀ ys T, unp (.any :: ys) T = (.any :: (unp ys T).1, (unp ys T).2)) :=
  ⟨fun _ _ _ _ => rfl, fun _ _ _ => rfl, fun _ _ => rfl, fun _ => rfl, fun _ _ _ _ => rfl, fun _ _ _ => rfl, fun _ => rfl, rfl, fun _ _ _ => rfl, fun _ => rfl, fun _ _ _ _ => rfl,
    fun _ _ _ => rfl, fun _ _ _ => rfl, fun _ _ _ => rfl, fun _ _ _ => rfl, fun _ _ _ _ => rfl, fun _ _ _ _ => rfl, fun _ _ _ => rfl, fun _ _ _ => rfl, fun _ _ _ _ _ _ => rfl, fun _ _ _ _ _ _ => rfl, fun _ _ _ => rfl, fun _ _ => rfl⟩
end Go.Proofs.Ytjgbbffcjbmjmaa
