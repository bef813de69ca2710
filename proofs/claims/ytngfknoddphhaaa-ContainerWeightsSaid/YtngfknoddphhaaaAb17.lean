import Derived.Test.YtngfknoddphhaaaAb16
namespace Go.Proofs.Ytngfknoddphhaaa
open Go.RowKit
set_option linter.unusedSimpArgs false
set_option linter.unusedVariables false

section
variable {C : Cx} {Q : Exit → Sta → Prop} {K : Sta → Prop} {ops : Array Oper} {o : Oper} {l : List Oper} {env : Nat → AV} {T T' : Sl} {n : Nat} {x : AV}
theorem awP (hj : OpP C o (evA env) T x) (h : AWL C ops Q l ⟨putE env o.dst x, T, n⟩) (hg : o.guard = none := by rfl) (ho : opsOk o n = true := by rfl) : AWL C ops Q (o :: l) ⟨env, T, n⟩ := AWL.op hg ho (OpP.j hj) h
theorem awR (hj : OpR C o (evA env) T x) (h : AWL C ops Q l ⟨putE env o.dst x, T, n⟩) (hg : o.guard = none := by rfl) (ho : opsOk o n = true := by rfl) : AWL C ops Q (o :: l) ⟨env, T, n⟩ := AWL.op hg ho (OpR.j hj) h
theorem awJ (hj : OpJ C o (evA env) T x T') (h : AWL C ops Q l ⟨putE env o.dst x, T', n⟩) (hg : o.guard = none := by rfl) (ho : opsOk o n = true := by rfl) : AWL C ops Q (o :: l) ⟨env, T, n⟩ := AWL.op hg ho hj h
theorem aqP (hj : OpP C o (evA env) T x) (h : AQ C ops K l ⟨putE env o.dst x, T, n⟩) (hg : o.guard = none := by rfl) (ho : opsOk o n = true := by rfl) : AQ C ops K (o :: l) ⟨env, T, n⟩ := AQ.op hg ho (OpP.q hj) h
theorem aqR (hj : OpR C o (evA env) T x) (h : AQ C ops K l ⟨putE env o.dst x, T, n⟩) (hg : o.guard = none := by rfl) (ho : opsOk o n = true := by rfl) : AQ C ops K (o :: l) ⟨env, T, n⟩ := AQ.op hg ho (OpR.q hj) h
theorem aqQ (hj : OpQ C o (evA env) T x) (h : AQ C ops K l ⟨putE env o.dst x, T, n⟩) (hg : o.guard = none := by rfl) (ho : opsOk o n = true := by rfl) : AQ C ops K (o :: l) ⟨env, T, n⟩ := AQ.op hg ho hj h

/-! ### Guarded segments: 'a && b', 'a || b' -/
def era (W : List Nat) (env : Nat → AV) : Nat → AV := fun t => if W.contains t then .any else env t
theorem wpQuiet_append {P : Program} {ops : Array Oper} {D : World → Prop} {Q : Act → Prop} : ∀ (l1 l2 : List Oper) (a : Act), wpQuiet P ops D (fun a' => wpQuiet P ops D Q l2 a') l1 a → wpQuiet P ops D Q (l1 ++ l2) a
  | [], l2, a, h => h
  | o :: l1, l2, a, h => by
    rw [List.cons_append]
    unfold wpQuiet at h ⊢
    split
    · rename_i hw
      rw [if_pos hw] at h
      exact Oper.quiet_mono (fun a => wpQuiet_append l1 l2 a) h
    · rename_i hw
      rw [if_neg hw] at h
      exact wpQuiet_append l1 l2 _ h
theorem wpQuiet_mono {P : Program} {ops : Array Oper} {D : World → Prop} {Q Q' : Act → Prop} (hq : ∀ a, Q a → Q' a) : ∀ (l : List Oper) (a : Act), wpQuiet P ops D Q l a → wpQuiet P ops D Q' l a
  | [], a, h => hq a h
  | o :: l, a, h => by
    unfold wpQuiet at h ⊢
    split
    · rename_i hw; rw [if_pos hw] at h; exact Oper.quiet_mono (fun a => wpQuiet_mono hq l a) h
    · rename_i hw; rw [if_neg hw] at h; exact wpQuiet_mono hq l _ h
theorem wpQuiet_skip {P : Program} {ops : Array Oper} {D : World → Prop} {Q : Act → Prop} {g d : Nat} {o' : Oper} {b : Bool} (ho' : ops[g]? = some o') (hd : o'.dst = some d) : ∀ (seg : List Oper) (a : Act), d < a.tmps.size → a.eval (.tmp d) = .bool b → (∀ o ∈ seg, o.guard = some (g, !b) ∧ o.dst ≠ some d) →
    (∀ a', a'.defers = a.defers → a'.tmps.size = a.tmps.size → (∀ t, (∀ o ∈ seg, o.dst ≠ some t) → a'.tmps.getD t undef = a.tmps.getD t undef) → Q a') → wpQuiet P ops D Q seg a
  | [], a, _, _, _, h => h a rfl rfl fun _ _ => rfl
  | o :: seg, a, hlt, hb, hs, h => by
    obtain ⟨hg, hne⟩ := hs o (by simp)
    have hw : ¬ Region.wanted o (yielded ops a.tmps) = true := by
      simp [Act.eval, hlt] at hb
      simp [Region.wanted, hg, yielded, ho', hd, hlt, hb]
    unfold wpQuiet
    rw [if_neg hw]
    have hsame : (a.put o.dst undef).tmps.getD d undef = a.tmps.getD d undef := by
      rw [Act.getD_put, if_neg]; intro h; exact hne h.1
    refine wpQuiet_skip ho' hd seg _ (by rw [Act.size_put]; exact hlt) (by show (a.put o.dst undef).tmps.getD d undef = _; rw [hsame]; exact hb) (fun o h => hs o (by simp [h])) fun a' h1 h2 h3 => h a' (by rw [h1, Act.defers_put]) (by rw [h2, Act.size_put]) fun t ht => ?_
    rw [h3 t fun o h => ht o (by simp [h]), Act.getD_put, if_neg]
    intro hh; exact ht o (by simp) hh.1
/-- What a guarded segment must come to. -/
def segK (σ : Sta) (W : List Nat) (d : Nat) (b2 : Bool) : Sta → Prop := fun σ' => σ'.T = σ.T ∧ σ'.n = σ.n ∧ σ'.env d = .v (.bool b2) ∧ ∀ t, W.contains t = false → σ'.env t = σ.env t
theorem StI.era {σ : Sta} {a : Act} {w : World} {S : Nat → Prop} {vals : List Value} {bss : List (List Nat)} (h : StI C σ a w S vals bss) {σ' : Sta} (hT : σ.T = σ'.T) (hn : σ.n = σ'.n) (W : List Nat) (hW : ∀ t, W.contains t = false → σ.env t = σ'.env t) : StI C ⟨era W σ'.env, σ'.T, σ'.n⟩ a w S vals bss := by
  obtain ⟨h1, h2, h3, h4⟩ := h
  rw [hn] at h2 h4
  rw [hT] at h3 h4
  refine ⟨h1, h2, h3, fun t ht => ?_⟩
  show TmpOK _ _ _ _ _ _ (Go.Proofs.Ytngfknoddphhaaa.era W σ'.env t)
  unfold Go.Proofs.Ytngfknoddphhaaa.era
  cases hc : W.contains t
  · rw [if_neg (by simp), ← hW t hc]; exact h4 t ht
  · rw [if_pos rfl]; exact TmpOK.any_
/-- a && b: seg reckons b. -/
theorem aqAnd {σ : Sta} (seg rest : List Oper) (p : Oper) (W : List Nat) {g c d pd : Nat} {b : Bool} {b2 : Bool} {o' : Oper} (hl : l = seg ++ p :: rest) (ho' : ops[g]? = some o') (hd : o'.dst = some c) (hc : c < σ.n) (hv : σ.env c = .v (.bool b)) (hs : seg.all (fun o => (o.guard == some (g, true)) && (match o.dst with | some t => W.contains t && t != c | none => true)) = true) (hp : p.op = .pick (.tmp c) (.tmp d) (.const (.bool false))) (hpg : p.guard = none) (hpd : p.dst = some pd) (hdn : d < σ.n) (hcW : W.contains c = false)
    (h1 : b = true → AQ C ops (segK σ W d b2) seg σ) (h2 : AQ C ops K rest ⟨upd (era W σ.env) pd (.v (.bool (b && b2))), σ.T, σ.n⟩) : AQ C ops K l σ := by
  subst hl
  intro a w S vals bss hst
  refine wpQuiet_append _ _ _ ?_
  have hseg : ∀ o ∈ seg, o.guard = some (g, true) ∧ (∀ t, o.dst = some t → W.contains t = true ∧ t ≠ c) := fun o ho => by
    have := List.all_eq_true.1 hs o ho
    simp only [Bool.and_eq_true, beq_iff_eq] at this
    refine ⟨this.1, fun t ht => ?_⟩
    rw [ht] at this
    simpa using this.2
  have hcv := hst.st.bool (c := .tmp c) (t := b) (by simpa [noneBig] using hc) rfl hv
  have fin : ∀ (a' : Act) (σ' : Sta), StI C σ' a' w S vals bss → σ'.T = σ.T → σ'.n = σ.n → (∀ t, W.contains t = false → σ'.env t = σ.env t) → (b = true → a'.eval (.tmp d) = .bool b2) → wpQuiet C.P ops (fun w' => Kept (fun _ => True) w w') (fun a' => ∃ σ', StI C σ' a' w S vals bss ∧ K σ') (p :: rest) a' := by
    intro a' σ' hs' hT hn hW hd'
    have hcv' := hs'.st.bool (c := .tmp c) (t := b) (by simp [noneBig, hn, hc]) rfl (show evA σ'.env (.tmp c) = _ by show σ'.env c = _; rw [hW c hcW]; exact hv)
    unfold wpQuiet
    rw [if_pos (by simp [Region.wanted, hpg])]
    refine ⟨.bool (b && b2), fun w' _ => ?_, ?_⟩
    · unfold Oper.quietAt
      have : (execOp a'.eval p).run C.P w' = .ok (.value (.bool (b && b2))) w' := by
        simp only [execOp, hp, hcv', asBool, Sem.run_bind, Sem.run_pure, Result.andThen_ok]
        cases b
        · rfl
        · rw [hd' rfl]; rfl
      rw [this]
      exact ⟨rfl, rfl⟩
    · have h3 := (hs'.era (σ' := σ) hT hn W hW).put (d := p.dst) (v := .bool (b && b2)) (x := .v (.bool (b && b2))) (TmpOK.v_ rfl)
      rw [hpd] at h3 ⊢
      exact h2 _ _ _ _ _ h3
  cases b with
  | true =>
    refine wpQuiet_mono ?_ _ _ (h1 rfl a w S vals bss hst)
    rintro a' ⟨σ', hs', e1, e2, e3, e4⟩
    refine fin a' σ' hs' e1 e2 e4 fun _ => ?_
    exact hs'.st.bool (c := .tmp d) (by simp [noneBig, e2, hdn]) rfl e3
  | false =>
    refine wpQuiet_skip (b := false) ho' hd seg a (by rw [hst.2.1]; exact hc) hcv (fun o ho => ⟨(hseg o ho).1, fun h => ((hseg o ho).2 c h).2 rfl⟩) fun a' q1 q2 q3 => ?_
    have hst' : StI C ⟨era W σ.env, σ.T, σ.n⟩ a' w S vals bss := by
      refine ⟨by rw [q1]; exact hst.1, by rw [q2]; exact hst.2.1, hst.2.2.1, fun t ht => ?_⟩
      show TmpOK _ _ _ _ _ _ (era W σ.env t)
      unfold era
      cases hcc : W.contains t
      · rw [if_neg (by simp), q3 t fun o ho h => by have := ((hseg o ho).2 t h).1; rw [hcc] at this; cases this]
        exact hst.2.2.2 t ht
      · rw [if_pos rfl]; exact TmpOK.any_
    refine fin a' _ hst' rfl rfl (fun t ht => ?_) (fun h => by cases h)
    show era W σ.env t = σ.env t
    unfold era
    rw [if_neg (by rw [ht]; simp)]
/-- a || b -/
theorem aqOr {σ : Sta} (seg rest : List Oper) (p : Oper) (W : List Nat) {g c d pd : Nat} {b : Bool} {b2 : Bool} {o' : Oper} (hl : l = seg ++ p :: rest) (ho' : ops[g]? = some o') (hd : o'.dst = some c) (hc : c < σ.n) (hv : σ.env c = .v (.bool b)) (hs : seg.all (fun o => (o.guard == some (g, false)) && (match o.dst with | some t => W.contains t && t != c | none => true)) = true) (hp : p.op = .pick (.tmp c) (.const (.bool true)) (.tmp d)) (hpg : p.guard = none) (hpd : p.dst = some pd) (hdn : d < σ.n) (hcW : W.contains c = false)
    (h1 : b = false → AQ C ops (segK σ W d b2) seg σ) (h2 : AQ C ops K rest ⟨upd (era W σ.env) pd (.v (.bool (b || b2))), σ.T, σ.n⟩) : AQ C ops K l σ := by
  subst hl
  intro a w S vals bss hst
  refine wpQuiet_append _ _ _ ?_
  have hseg : ∀ o ∈ seg, o.guard = some (g, false) ∧ (∀ t, o.dst = some t → W.contains t = true ∧ t ≠ c) := fun o ho => by
    have := List.all_eq_true.1 hs o ho
    simp only [Bool.and_eq_true, beq_iff_eq] at this
    refine ⟨this.1, fun t ht => ?_⟩
    rw [ht] at this
    simpa using this.2
  have hcv := hst.st.bool (c := .tmp c) (t := b) (by simpa [noneBig] using hc) rfl hv
  have fin : ∀ (a' : Act) (σ' : Sta), StI C σ' a' w S vals bss → σ'.T = σ.T → σ'.n = σ.n → (∀ t, W.contains t = false → σ'.env t = σ.env t) → (b = false → a'.eval (.tmp d) = .bool b2) → wpQuiet C.P ops (fun w' => Kept (fun _ => True) w w') (fun a' => ∃ σ', StI C σ' a' w S vals bss ∧ K σ') (p :: rest) a' := by
    intro a' σ' hs' hT hn hW hd'
    have hcv' := hs'.st.bool (c := .tmp c) (t := b) (by simp [noneBig, hn, hc]) rfl (show evA σ'.env (.tmp c) = _ by show σ'.env c = _; rw [hW c hcW]; exact hv)
    unfold wpQuiet
    rw [if_pos (by simp [Region.wanted, hpg])]
    refine ⟨.bool (b || b2), fun w' _ => ?_, ?_⟩
    · unfold Oper.quietAt
      have : (execOp a'.eval p).run C.P w' = .ok (.value (.bool (b || b2))) w' := by
        simp only [execOp, hp, hcv', asBool, Sem.run_bind, Sem.run_pure, Result.andThen_ok]
        cases b
        · rw [hd' rfl]; rfl
        · rfl
      rw [this]
      exact ⟨rfl, rfl⟩
    · have h3 := (hs'.era (σ' := σ) hT hn W hW).put (d := p.dst) (v := .bool (b || b2)) (x := .v (.bool (b || b2))) (TmpOK.v_ rfl)
      rw [hpd] at h3 ⊢
      exact h2 _ _ _ _ _ h3
  cases b with
  | false =>
    refine wpQuiet_mono ?_ _ _ (h1 rfl a w S vals bss hst)
    rintro a' ⟨σ', hs', e1, e2, e3, e4⟩
    refine fin a' σ' hs' e1 e2 e4 fun _ => ?_
    exact hs'.st.bool (c := .tmp d) (by simp [noneBig, e2, hdn]) rfl e3
  | true =>
    refine wpQuiet_skip (b := true) ho' hd seg a (by rw [hst.2.1]; exact hc) hcv (fun o ho => ⟨(hseg o ho).1, fun h => ((hseg o ho).2 c h).2 rfl⟩) fun a' q1 q2 q3 => ?_
    have hst' : StI C ⟨era W σ.env, σ.T, σ.n⟩ a' w S vals bss := by
      refine ⟨by rw [q1]; exact hst.1, by rw [q2]; exact hst.2.1, hst.2.2.1, fun t ht => ?_⟩
      show TmpOK _ _ _ _ _ _ (era W σ.env t)
      unfold era
      cases hcc : W.contains t
      · rw [if_neg (by simp), q3 t fun o ho h => by have := ((hseg o ho).2 t h).1; rw [hcc] at this; cases this]
        exact hst.2.2.2 t ht
      · rw [if_pos rfl]; exact TmpOK.any_
    refine fin a' _ hst' rfl rfl (fun t ht => ?_) (fun h => by cases h)
    show era W σ.env t = σ.env t
    unfold era
    rw [if_neg (by rw [ht]; simp)]
/-- A region in the order of the text that only reads. -/
theorem wpList_of_quiet {P : Program} {Q' : Exit → Act → World → Prop} {D : World → Prop} : ∀ (l : List Oper) (a : Act) (w : World), D w → wpQuiet P ops D (fun a' => ∀ w', D w' → Q' .normal a' w') l a → wpList P ops Q' l a w
  | [], a, w, hw, h => h w hw
  | o :: l, a, w, hw, h => by
    refine wpList_step fun K' hK => ?_
    unfold wpQuiet at h
    split
    · rename_i hwn
      rw [if_pos hwn] at h
      exact Oper.wp_of_quiet hw (fun a' w' hw' hk => hK _ _ (wpList_of_quiet l a' w' hw' hk)) h
    · rename_i hwn
      rw [if_neg hwn] at h
      exact hK _ _ (wpList_of_quiet l _ w hw h)
theorem AWL.quiet {σ : Sta} (h : AQ C ops (Q .normal) l σ) : AWL C ops Q l σ := by
  intro a w ⟨hd, hn, S, vals, bss, hme, he⟩
  refine wpList_of_quiet (D := fun w' => Kept (fun _ => True) w w') l a w (Kept.refl _ _) ?_
  refine wpQuiet_mono ?_ _ _ (h a w S vals bss ⟨hd, hn, hme, he⟩)
  rintro a' ⟨σ', hs, hq⟩ w' hk'
  obtain ⟨h1, h2, h3, h4⟩ := hs.grow hk'
  exact ⟨σ', ⟨h1, h2, S, vals, bss, h3, h4⟩, hq⟩
end
end Go.Proofs.Ytngfknoddphhaaa
