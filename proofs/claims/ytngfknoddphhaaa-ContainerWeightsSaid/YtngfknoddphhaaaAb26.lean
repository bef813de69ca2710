import Derived.Test.YtngfknoddphhaaaAb25
namespace Go.Proofs.Ytngfknoddphhaaa
open Go.RowKit
set_option linter.unusedSimpArgs false
set_option linter.unusedVariables false

/-! ### Guarded segments within guarded segments -/
section
variable {C : Cx} {Q : Exit → Sta → Prop} {K : Sta → Prop} {ops : Array Oper} {o : Oper} {l : List Oper} {env : Nat → AV} {T T' : Sl} {n : Nat} {x : AV}
def skipB (ops : Array Oper) (g : Nat) (b : Bool) (c : Nat) (W : List Nat) : List Nat → List Oper → Bool
  | _, [] => true
  | dead, o :: l => (o.guard == some (g, b) || (match o.guard with | some (g2, _) => (match (ops[g2]?).bind (·.dst) with | some d2 => dead.contains d2 | none => false) | none => false)) && (match o.dst with | some t => W.contains t && t != c | none => true) && skipB ops g b c W (o.dst.toList ++ dead) l
theorem skipB_dst {g c : Nat} {b : Bool} {W : List Nat} : ∀ {seg : List Oper} {dead : List Nat}, skipB ops g b c W dead seg = true → ∀ o ∈ seg, ∀ t, o.dst = some t → W.contains t = true ∧ t ≠ c
  | [], _, _, _, h => by cases h
  | p :: seg, dead, h, o, ho => by
    unfold skipB at h
    simp only [Bool.and_eq_true] at h
    rcases List.mem_cons.1 ho with rfl | ho
    · intro t ht
      have h2 := h.1.2
      rw [ht] at h2
      simpa using h2
    · exact skipB_dst h.2 o ho
theorem wpQuiet_skip2 {P : Program} {D : World → Prop} {Q : Act → Prop} {g d : Nat} {W : List Nat} {o' : Oper} {b : Bool} (ho' : ops[g]? = some o') (hd : o'.dst = some d) : ∀ (seg : List Oper) (dead : List Nat) (a : Act), d < a.tmps.size → a.eval (.tmp d) = .bool b → skipB ops g (!b) d W dead seg = true → (∀ t ∈ dead, a.tmps.getD t undef = undef) →
    (∀ a', a'.defers = a.defers → a'.tmps.size = a.tmps.size → (∀ t, (∀ o ∈ seg, o.dst ≠ some t) → a'.tmps.getD t undef = a.tmps.getD t undef) → Q a') → wpQuiet P ops D Q seg a
  | [], _, a, _, _, _, _, h => h a rfl rfl fun _ _ => rfl
  | o :: seg, dead, a, hlt, hb, hs, hdead, h => by
    have hs0 := hs
    unfold skipB at hs
    simp only [Bool.and_eq_true, Bool.or_eq_true, beq_iff_eq] at hs
    obtain ⟨⟨hg, hdst⟩, hs'⟩ := hs
    have hne : o.dst ≠ some d := fun e => (skipB_dst hs0 o (by simp) d e).2 rfl
    have hw : ¬ Region.wanted o (yielded ops a.tmps) = true := by
      rcases hg with hg | hg
      · simp [Act.eval, hlt] at hb
        simp [Region.wanted, hg, yielded, ho', hd, hlt, hb]
      · split at hg
        · rename_i g2 b2 hgd
          split at hg
          · rename_i d2 hd2
            have hm : d2 ∈ dead := by simpa using hg
            have hu := hdead d2 hm
            have e : yielded ops a.tmps g2 = none := by
              obtain ⟨o2, h1, h2⟩ := Option.bind_eq_some_iff.1 hd2
              rcases Nat.lt_or_ge d2 a.tmps.size with h3 | h3
              · simp [h3] at hu
                simp [yielded, h1, h2, h3, hu, undef]
              · simp [yielded, h1, h2, h3]
            simp [Region.wanted, hgd, e]
          · cases hg
        · cases hg
    unfold wpQuiet
    rw [if_neg hw]
    have hsame : (a.put o.dst undef).tmps.getD d undef = a.tmps.getD d undef := by
      rw [Act.getD_put, if_neg]; intro h; exact hne h.1
    refine wpQuiet_skip2 ho' hd seg (o.dst.toList ++ dead) _ (by rw [Act.size_put]; exact hlt) (by show (a.put o.dst undef).tmps.getD d undef = _; rw [hsame]; exact hb) hs' (fun t ht => ?_) fun a' h1 h2 h3 => h a' (by rw [h1, Act.defers_put]) (by rw [h2, Act.size_put]) fun t ht => ?_
    · rw [Act.getD_put]
      split
      · rfl
      · rename_i hn'
        rcases List.mem_append.1 ht with h5 | h5
        · have h6 : o.dst = some t := by simpa using h5
          by_cases h7 : t < a.tmps.size
          · exact absurd ⟨h6, h7⟩ hn'
          · simp [h7]
        · exact hdead t h5
    · rw [h3 t fun o h => ht o (by simp [h]), Act.getD_put, if_neg]
      intro hh; exact ht o (by simp) hh.1
/-- a && b: seg reckons b. -/
theorem aqAndN {σ : Sta} (seg rest : List Oper) (p : Oper) (W : List Nat) {g c d pd : Nat} {b : Bool} {b2 : Bool} {o' : Oper} (hl : l = seg ++ p :: rest) (ho' : ops[g]? = some o') (hd : o'.dst = some c) (hc : c < σ.n) (hv : σ.env c = .v (.bool b)) (hs : skipB ops g true c W [] seg = true) (hp : p.op = .pick (.tmp c) (.tmp d) (.const (.bool false))) (hpg : p.guard = none) (hpd : p.dst = some pd) (hdn : d < σ.n) (hcW : W.contains c = false)
    (h1 : b = true → AQ C ops (segK σ W d b2) seg σ) (h2 : AQ C ops K rest ⟨upd (era W σ.env) pd (.v (.bool (b && b2))), σ.T, σ.n⟩) : AQ C ops K l σ := by
  subst hl
  intro a w S vals bss hst
  refine wpQuiet_append _ _ _ ?_
  have hseg := skipB_dst hs
  have hcv := hst.st.bool (c := .tmp c) (t := b) (by simpa [noneBig] using hc) rfl hv
  have fin : ∀ (a' : Act) (σ' : Sta), StI C σ' a' w S vals bss → σ'.T = σ.T → σ'.n = σ.n → (∀ t, W.contains t = false → σ'.env t = σ.env t) → (b = true → a'.eval (.tmp d) = .bool b2) → wpQuiet C.P ops (fun w' => Kept (fun _ => True) w w') (fun a' => ∃ σ', StI C σ' a' w S vals bss ∧ K σ') (p :: rest) a' := by
    intro a' σ' hs' hT hn hW hd'
    have hcv' := hs'.st.bool (c := .tmp c) (t := b) (by simp [noneBig, hn, hc]) rfl (show evA σ'.env (.tmp c) = _ by show σ'.env c = _; rw [hW c hcW]; exact hv)
    unfold wpQuiet
    rw [if_pos (by simp [Region.wanted, hpg])]
    refine ⟨.bool (b && b2), fun w' _ => ?_, ?_⟩
    · unfold Oper.quietAt
      have : (execOp a'.eval p).run C.P w' = .ok (.value (.bool (b && b2))) w' := by
        simp only [execOp, hp, hcv', asBool, Sem.run_bind, Sem.run_pure, Result.andThen_ok]
        cases b
        · rfl
        · rw [hd' rfl]; rfl
      rw [this]
      exact ⟨rfl, rfl⟩
    · have h3 := (hs'.era (σ' := σ) hT hn W hW).put (d := p.dst) (v := .bool (b && b2)) (x := .v (.bool (b && b2))) (TmpOK.v_ rfl)
      rw [hpd] at h3 ⊢
      exact h2 _ _ _ _ _ h3
  cases b with
  | true =>
    refine wpQuiet_mono ?_ _ _ (h1 rfl a w S vals bss hst)
    rintro a' ⟨σ', hs', e1, e2, e3, e4⟩
    refine fin a' σ' hs' e1 e2 e4 fun _ => ?_
    exact hs'.st.bool (c := .tmp d) (by simp [noneBig, e2, hdn]) rfl e3
  | false =>
    refine wpQuiet_skip2 (b := false) (W := W) ho' hd seg [] a (by rw [hst.2.1]; exact hc) hcv hs (fun t h => by cases h) fun a' q1 q2 q3 => ?_
    have hst' : StI C ⟨era W σ.env, σ.T, σ.n⟩ a' w S vals bss := by
      refine ⟨by rw [q1]; exact hst.1, by rw [q2]; exact hst.2.1, hst.2.2.1, fun t ht => ?_⟩
      show TmpOK _ _ _ _ _ _ (era W σ.env t)
      unfold era
      cases hcc : W.contains t
      · rw [if_neg (by simp), q3 t fun o ho h => by have := (hseg o ho t h).1; rw [hcc] at this; cases this]
        exact hst.2.2.2 t ht
      · rw [if_pos rfl]; exact TmpOK.any_
    refine fin a' _ hst' rfl rfl (fun t ht => ?_) (fun h => by cases h)
    show era W σ.env t = σ.env t
    unfold era
    rw [if_neg (by rw [ht]; simp)]
/-- a || b -/
theorem aqOrN {σ : Sta} (seg rest : List Oper) (p : Oper) (W : List Nat) {g c d pd : Nat} {b : Bool} {b2 : Bool} {o' : Oper} (hl : l = seg ++ p :: rest) (ho' : ops[g]? = some o') (hd : o'.dst = some c) (hc : c < σ.n) (hv : σ.env c = .v (.bool b)) (hs : skipB ops g false c W [] seg = true) (hp : p.op = .pick (.tmp c) (.const (.bool true)) (.tmp d)) (hpg : p.guard = none) (hpd : p.dst = some pd) (hdn : d < σ.n) (hcW : W.contains c = false)
    (h1 : b = false → AQ C ops (segK σ W d b2) seg σ) (h2 : AQ C ops K rest ⟨upd (era W σ.env) pd (.v (.bool (b || b2))), σ.T, σ.n⟩) : AQ C ops K l σ := by
  subst hl
  intro a w S vals bss hst
  refine wpQuiet_append _ _ _ ?_
  have hseg := skipB_dst hs
  have hcv := hst.st.bool (c := .tmp c) (t := b) (by simpa [noneBig] using hc) rfl hv
  have fin : ∀ (a' : Act) (σ' : Sta), StI C σ' a' w S vals bss → σ'.T = σ.T → σ'.n = σ.n → (∀ t, W.contains t = false → σ'.env t = σ.env t) → (b = false → a'.eval (.tmp d) = .bool b2) → wpQuiet C.P ops (fun w' => Kept (fun _ => True) w w') (fun a' => ∃ σ', StI C σ' a' w S vals bss ∧ K σ') (p :: rest) a' := by
    intro a' σ' hs' hT hn hW hd'
    have hcv' := hs'.st.bool (c := .tmp c) (t := b) (by simp [noneBig, hn, hc]) rfl (show evA σ'.env (.tmp c) = _ by show σ'.env c = _; rw [hW c hcW]; exact hv)
    unfold wpQuiet
    rw [if_pos (by simp [Region.wanted, hpg])]
    refine ⟨.bool (b || b2), fun w' _ => ?_, ?_⟩
    · unfold Oper.quietAt
      have : (execOp a'.eval p).run C.P w' = .ok (.value (.bool (b || b2))) w' := by
        simp only [execOp, hp, hcv', asBool, Sem.run_bind, Sem.run_pure, Result.andThen_ok]
        cases b
        · rw [hd' rfl]; rfl
        · rfl
      rw [this]
      exact ⟨rfl, rfl⟩
    · have h3 := (hs'.era (σ' := σ) hT hn W hW).put (d := p.dst) (v := .bool (b || b2)) (x := .v (.bool (b || b2))) (TmpOK.v_ rfl)
      rw [hpd] at h3 ⊢
      exact h2 _ _ _ _ _ h3
  cases b with
  | false =>
    refine wpQuiet_mono ?_ _ _ (h1 rfl a w S vals bss hst)
    rintro a' ⟨σ', hs', e1, e2, e3, e4⟩
    refine fin a' σ' hs' e1 e2 e4 fun _ => ?_
    exact hs'.st.bool (c := .tmp d) (by simp [noneBig, e2, hdn]) rfl e3
  | true =>
    refine wpQuiet_skip2 (b := true) (W := W) ho' hd seg [] a (by rw [hst.2.1]; exact hc) hcv hs (fun t h => by cases h) fun a' q1 q2 q3 => ?_
    have hst' : StI C ⟨era W σ.env, σ.T, σ.n⟩ a' w S vals bss := by
      refine ⟨by rw [q1]; exact hst.1, by rw [q2]; exact hst.2.1, hst.2.2.1, fun t ht => ?_⟩
      show TmpOK _ _ _ _ _ _ (era W σ.env t)
      unfold era
      cases hcc : W.contains t
      · rw [if_neg (by simp), q3 t fun o ho h => by have := (hseg o ho t h).1; rw [hcc] at this; cases this]
        exact hst.2.2.2 t ht
      · rw [if_pos rfl]; exact TmpOK.any_
    refine fin a' _ hst' rfl rfl (fun t ht => ?_) (fun h => by cases h)
    show era W σ.env t = σ.env t
    unfold era
    rw [if_neg (by rw [ht]; simp)]
theorem aqAndN' {g c d pd : Nat} {b b2 : Bool} {p : Oper} {rest : List Oper} {o' : Oper} (seg : List Oper) (W : List Nat) (hl : l = seg ++ p :: rest) (hg0 : (match l with | o :: _ => o.guard | [] => none) = some (g, true)) (ho' : ops[g]? = some o') (hd : o'.dst = some c) (hc : Nat.ble (c + 1) n = true) (hv : env c = .v (.bool b)) (hs : skipB ops g true c W [] seg = true) (hp : p.op = .pick (.tmp c) (.tmp d) (.const (.bool false))) (hpg : p.guard = none) (hpd : p.dst = some pd) (hdn : Nat.ble (d + 1) n = true) (hcW : W.contains c = false)
    (h1 : b = true → AQ C ops (segK ⟨env, T, n⟩ W d b2) (seg.map (ung g true)) ⟨env, T, n⟩) (h2 : AQ C ops K rest ⟨upd (era W env) pd (.v (.bool (b && b2))), T, n⟩) : AQ C ops K l ⟨env, T, n⟩ :=
  aqAndN seg rest p W hl ho' hd (Nat.le_of_ble_eq_true hc) hv hs hp hpg hpd (Nat.le_of_ble_eq_true hdn) hcW (fun hb => AQ.ung ho' hd (Nat.le_of_ble_eq_true hc) (by subst hb; exact hv) (fun o ho h => (skipB_dst hs o ho c h).2 rfl) (h1 hb)) h2
theorem aqOrN' {g c d pd : Nat} {b b2 : Bool} {p : Oper} {rest : List Oper} {o' : Oper} (seg : List Oper) (W : List Nat) (hl : l = seg ++ p :: rest) (hg0 : (match l with | o :: _ => o.guard | [] => none) = some (g, false)) (ho' : ops[g]? = some o') (hd : o'.dst = some c) (hc : Nat.ble (c + 1) n = true) (hv : env c = .v (.bool b)) (hs : skipB ops g false c W [] seg = true) (hp : p.op = .pick (.tmp c) (.const (.bool true)) (.tmp d)) (hpg : p.guard = none) (hpd : p.dst = some pd) (hdn : Nat.ble (d + 1) n = true) (hcW : W.contains c = false)
    (h1 : b = false → AQ C ops (segK ⟨env, T, n⟩ W d b2) (seg.map (ung g false)) ⟨env, T, n⟩) (h2 : AQ C ops K rest ⟨upd (era W env) pd (.v (.bool (b || b2))), T, n⟩) : AQ C ops K l ⟨env, T, n⟩ :=
  aqOrN seg rest p W hl ho' hd (Nat.le_of_ble_eq_true hc) hv hs hp hpg hpd (Nat.le_of_ble_eq_true hdn) hcW (fun hb => AQ.ung ho' hd (Nat.le_of_ble_eq_true hc) (by subst hb; exact hv) (fun o ho h => (skipB_dst hs o ho c h).2 rfl) (h1 hb)) h2
end
end Go.Proofs.Ytngfknoddphhaaa
