import Derived.Test.YtjgbbffcjbmjmaaAbB
import Derived.IntWalk
import Derived.StillTail
namespace Go.Proofs.Ytjgbbffcjbmjmaa
open Go.RowKit
set_option linter.unusedSimpArgs false
set_option linter.unusedVariables false

section
variable {C : Cx} {Q : Exit → Sta → Prop} {K : Sta → Prop} {ops : Array Oper} {o : Oper} {l : List Oper} {env : Nat → AV} {T T' : Sl} {n : Nat} {x : AV}
theorem awP (hj : OpP C o (evA env) T x) (h : AWL C ops Q l ⟨putE env o.dst x, T, n⟩) (hg : o.guard = none := by rfl) (ho : opsOk o n = true := by rfl) : AWL C ops Q (o :: l) ⟨env, T, n⟩ := AWL.op hg ho (OpP.j hj) h
theorem awR (hj : OpR C o (evA env) T x) (h : AWL C ops Q l ⟨putE env o.dst x, T, n⟩) (hg : o.guard = none := by rfl) (ho : opsOk o n = true := by rfl) : AWL C ops Q (o :: l) ⟨env, T, n⟩ := AWL.op hg ho (OpR.j hj) h
theorem awJ (hj : OpJ C o (evA env) T x T') (h : AWL C ops Q l ⟨putE env o.dst x, T', n⟩) (hg : o.guard = none := by rfl) (ho : opsOk o n = true := by rfl) : AWL C ops Q (o :: l) ⟨env, T, n⟩ := AWL.op hg ho hj h
theorem aqP (hj : OpP C o (evA env) T x) (h : AQ C ops K l ⟨putE env o.dst x, T, n⟩) (hg : o.guard = none := by rfl) (ho : opsOk o n = true := by rfl) : AQ C ops K (o :: l) ⟨env, T, n⟩ := AQ.op hg ho (OpP.q hj) h
theorem aqR (hj : OpR C o (evA env) T x) (h : AQ C ops K l ⟨putE env o.dst x, T, n⟩) (hg : o.guard = none := by rfl) (ho : opsOk o n = true := by rfl) : AQ C ops K (o :: l) ⟨env, T, n⟩ := AQ.op hg ho (OpR.q hj) h
theorem aqQ (hj : OpQ C o (evA env) T x) (h : AQ C ops K l ⟨putE env o.dst x, T, n⟩) (hg : o.guard = none := by rfl) (ho : opsOk o n = true := by rfl) : AQ C ops K (o :: l) ⟨env, T, n⟩ := AQ.op hg ho hj h

/-! ### Guarded segments: 'a && b', 'a || b' -/
def era (W : List Nat) (env : Nat → AV) : Nat → AV := fun t => if W.contains t then .any else env t
theorem wpQuiet_append {P : Program} {ops : Array Oper} {D : World → Prop} {Q : Act → Prop} : ∀ (l1 l2 : List Oper) (a : Act), wpQuiet P ops D (fun a' => wpQuiet P ops D Q l2 a') l1 a → wpQuiet P ops D Q (l1 ++ l2) a
  | [], l2, a, h => h
  | o :: l1, l2, a, h => by
    rw [List.cons_append]
    unfold wpQuiet at h ⊢
    split
    · rename_i hw
      rw [if_pos hw] at h
      exact Oper.quiet_mono (fun a => wpQuiet_append l1 l2 a) h
    · rename_i hw
      rw [if_neg hw] at h
      exact wpQuiet_append l1 l2 _ h
theorem wpQuiet_mono {P : Program} {ops : Array Oper} {D : World → Prop} {Q Q' : Act → Prop} (hq : ∀ a, Q a → Q' a) : ∀ (l : List Oper) (a : Act), wpQuiet P ops D Q l a → wpQuiet P ops D Q' l a
  | [], a, h => hq a h
  | o :: l, a, h => by
    unfold wpQuiet at h ⊢
    split
    · rename_i hw; rw [if_pos hw] at h; exact Oper.quiet_mono (fun a => wpQuiet_mono hq l a) h
    · rename_i hw; rw [if_neg hw] at h; exact wpQuiet_mono hq l _ h
theorem wpQuiet_skip {P : Program} {ops : Array Oper} {D : World → Prop} {Q : Act → Prop} {g d : Nat} {o' : Oper} {b : Bool} (ho' : ops[g]? = some o') (hd : o'.dst = some d) : ∀ (seg : List Oper) (a : Act), d < a.tmps.size → a.eval (.tmp d) = .bool b → (∀ o ∈ seg, o.guard = some (g, !b) ∧ o.dst ≠ some d) →
    (∀ a', a'.defers = a.defers → a'.tmps.size = a.tmps.size → (∀ t, (∀ o ∈ seg, o.dst ≠ some t) → a'.tmps.getD t undef = a.tmps.getD t undef) → Q a') → wpQuiet P ops D Q seg a
  | [], a, _, _, _, h => h a rfl rfl fun _ _ => rfl
  | o :: seg, a, hlt, hb, hs, h => by
    obtain ⟨hg, hne⟩ := hs o (by simp)
    have hw : ¬ Region.wanted o (yielded ops a.tmps) = true := by
      simp [Act.eval, hlt] at hb
      simp [Region.wanted, hg, yielded, ho', hd, hlt, hb]
    unfold wpQuiet
    rw [if_neg hw]
    have hsame : (a.put o.dst undef).tmps.getD d undef = a.tmps.getD d undef := by
      rw [Act.getD_put, if_neg]; intro h; exact hne h.1
    refine wpQuiet_skip ho' hd seg _ (by rw [Act.size_put]; exact hlt) (by show (a.put o.dst undef).tmps.getD d undef = _; rw [hsame]; exact hb) (fun o h => hs o (by simp [h])) fun a' h1 h2 h3 => h a' (by rw [h1, Act.defers_put]) (by rw [h2, Act.size_put]) fun t ht => ?_
    rw [h3 t fun o h => ht o (by simp [h]), Act.getD_put, if_neg]
    intro hh; exact ht o (by simp) hh.1
/-- What a guarded segment must come to. -/
def segK (σ : Sta) (W : List Nat) (d : Nat) (b2 : Bool) : Sta → Prop := fun σ' => σ'.T = σ.T ∧ σ'.n = σ.n ∧ σ'.env d = .v (.bool b2) ∧ ∀ t, W.contains t = false → σ'.env t = σ.env t
theorem StI.era {σ : Sta} {a : Act} {w : World} {S : Nat → Prop} {vals : List Value} {bss : List (List Nat)} (h : StI C σ a w S vals bss) {σ' : Sta} (hT : σ.T = σ'.T) (hn : σ.n = σ'.n) (W : List Nat) (hW : ∀ t, W.contains t = false → σ.env t = σ'.env t) : StI C ⟨era W σ'.env, σ'.T, σ'.n⟩ a w S vals bss := by
  obtain ⟨h1, h2, h3, h4⟩ := h
  rw [hn] at h2 h4
  rw [hT] at h3 h4
  refine ⟨h1, h2, h3, fun t ht => ?_⟩
  show TmpOK _ _ _ _ _ _ (Go.Proofs.Ytjgbbffcjbmjmaa.era W σ'.env t)
  unfold Go.Proofs.Ytjgbbffcjbmjmaa.era
  cases hc : W.contains t
  · rw [if_neg (by simp), ← hW t hc]; exact h4 t ht
  · rw [if_pos rfl]; exact TmpOK.any_
/-- a && b: seg reckons b. -/
theorem aqAnd {σ : Sta} (seg rest : List Oper) (p : Oper) (W : List Nat) {g c d pd : Nat} {b : Bool} {b2 : Bool} {o' : Oper} (hl : l = seg ++ p :: rest) (ho' : ops[g]? = some o') (hd : o'.dst = some c) (hc : c < σ.n) (hv : σ.env c = .v (.bool b)) (hs : seg.all (fun o => (o.guard == some (g, true)) && (match o.dst with | some t => W.contains t && t != c | none => true)) = true) (hp : p.op = .pick (.tmp c) (.tmp d) (.const (.bool false))) (hpg : p.guard = none) (hpd : p.dst = some pd) (hdn : d < σ.n) (hcW : W.contains c = false)
    (h1 : b = true → AQ C ops (segK σ W d b2) seg σ) (h2 : AQ C ops K rest ⟨upd (era W σ.env) pd (.v (.bool (b && b2))), σ.T, σ.n⟩) : AQ C ops K l σ := by
  subst hl
  intro a w S vals bss hst
  refine wpQuiet_append _ _ _ ?_
  have hseg : ∀ o ∈ seg, o.guard = some (g, true) ∧ (∀ t, o.dst = some t → W.contains t = true ∧ t ≠ c) := fun o ho => by
    have := List.all_eq_true.1 hs o ho
    simp only [Bool.and_eq_true, beq_iff_eq] at this
    refine ⟨this.1, fun t ht => ?_⟩
    rw [ht] at this
    simpa using this.2
  have hcv := hst.st.bool (c := .tmp c) (t := b) (by simpa [noneBig] using hc) rfl hv
  have fin : ∀ (a' : Act) (σ' : Sta), StI C σ' a' w S vals bss → σ'.T = σ.T → σ'.n = σ.n → (∀ t, W.contains t = false → σ'.env t = σ.env t) → (b = true → a'.eval (.tmp d) = .bool b2) → wpQuiet C.P ops (fun w' => Kept (fun _ => True) w w') (fun a' => ∃ σ', StI C σ' a' w S vals bss ∧ K σ') (p :: rest) a' := by
    intro a' σ' hs' hT hn hW hd'
    have hcv' := hs'.st.bool (c := .tmp c) (t := b) (by simp [noneBig, hn, hc]) rfl (show evA σ'.env (.tmp c) = _ by show σ'.env c = _; rw [hW c hcW]; exact hv)
    unfold wpQuiet
    rw [if_pos (by simp [Region.wanted, hpg])]
    refine ⟨.bool (b && b2), fun w' _ => ?_, ?_⟩
    · unfold Oper.quietAt
      have : (execOp a'.eval p).run C.P w' = .ok (.value (.bool (b && b2))) w' := by
        simp only [execOp, hp, hcv', asBool, Sem.run_bind, Sem.run_pure, Result.andThen_ok]
        cases b
        · rfl
        · rw [hd' rfl]; rfl
      rw [this]
      exact ⟨rfl, rfl⟩
    · have h3 := (hs'.era (σ' := σ) hT hn W hW).put (d := p.dst) (v := .bool (b && b2)) (x := .v (.bool (b && b2))) (TmpOK.v_ rfl)
      rw [hpd] at h3 ⊢
      exact h2 _ _ _ _ _ h3
  cases b with
  | true =>
    refine wpQuiet_mono ?_ _ _ (h1 rfl a w S vals bss hst)
    rintro a' ⟨σ', hs', e1, e2, e3, e4⟩
    refine fin a' σ' hs' e1 e2 e4 fun _ => ?_
    exact hs'.st.bool (c := .tmp d) (by simp [noneBig, e2, hdn]) rfl e3
  | false =>
    refine wpQuiet_skip (b := false) ho' hd seg a (by rw [hst.2.1]; exact hc) hcv (fun o ho => ⟨(hseg o ho).1, fun h => ((hseg o ho).2 c h).2 rfl⟩) fun a' q1 q2 q3 => ?_
    have hst' : StI C ⟨era W σ.env, σ.T, σ.n⟩ a' w S vals bss := by
      refine ⟨by rw [q1]; exact hst.1, by rw [q2]; exact hst.2.1, hst.2.2.1, fun t ht => ?_⟩
      show TmpOK _ _ _ _ _ _ (era W σ.env t)
      unfold era
      cases hcc : W.contains t
      · rw [if_neg (by simp), q3 t fun o ho h => by have := ((hseg o ho).2 t h).1; rw [hcc] at this; cases this]
        exact hst.2.2.2 t ht
      · rw [if_pos rfl]; exact TmpOK.any_
    refine fin a' _ hst' rfl rfl (fun t ht => ?_) (fun h => by cases h)
    show era W σ.env t = σ.env t
    unfold era
    rw [if_neg (by rw [ht]; simp)]
/-- a || b -/
theorem aqOr {σ : Sta} (seg rest : List Oper) (p : Oper) (W : List Nat) {g c d pd : Nat} {b : Bool} {b2 : Bool} {o' : Oper} (hl : l = seg ++ p :: rest) (ho' : ops[g]? = some o') (hd : o'.dst = some c) (hc : c < σ.n) (hv : σ.env c = .v (.bool b)) (hs : seg.all (fun o => (o.guard == some (g, false)) && (match o.dst with | some t => W.contains t && t != c | none => true)) = true) (hp : p.op = .pick (.tmp c) (.const (.bool true)) (.tmp d)) (hpg : p.guard = none) (hpd : p.dst = some pd) (hdn : d < σ.n) (hcW : W.contains c = false)
    (h1 : b = false → AQ C ops (segK σ W d b2) seg σ) (h2 : AQ C ops K rest ⟨upd (era W σ.env) pd (.v (.bool (b || b2))), σ.T, σ.n⟩) : AQ C ops K l σ := by
  subst hl
  intro a w S vals bss hst
  refine wpQuiet_append _ _ _ ?_
  have hseg : ∀ o ∈ seg, o.guard = some (g, false) ∧ (∀ t, o.dst = some t → W.contains t = true ∧ t ≠ c) := fun o ho => by
    have := List.all_eq_true.1 hs o ho
    simp only [Bool.and_eq_true, beq_iff_eq] at this
    refine ⟨this.1, fun t ht => ?_⟩
    rw [ht] at this
    simpa using this.2
  have hcv := hst.st.bool (c := .tmp c) (t := b) (by simpa [noneBig] using hc) rfl hv
  have fin : ∀ (a' : Act) (σ' : Sta), StI C σ' a' w S vals bss → σ'.T = σ.T → σ'.n = σ.n → (∀ t, W.contains t = false → σ'.env t = σ.env t) → (b = false → a'.eval (.tmp d) = .bool b2) → wpQuiet C.P ops (fun w' => Kept (fun _ => True) w w') (fun a' => ∃ σ', StI C σ' a' w S vals bss ∧ K σ') (p :: rest) a' := by
    intro a' σ' hs' hT hn hW hd'
    have hcv' := hs'.st.bool (c := .tmp c) (t := b) (by simp [noneBig, hn, hc]) rfl (show evA σ'.env (.tmp c) = _ by show σ'.env c = _; rw [hW c hcW]; exact hv)
    unfold wpQuiet
    rw [if_pos (by simp [Region.wanted, hpg])]
    refine ⟨.bool (b || b2), fun w' _ => ?_, ?_⟩
    · unfold Oper.quietAt
      have : (execOp a'.eval p).run C.P w' = .ok (.value (.bool (b || b2))) w' := by
        simp only [execOp, hp, hcv', asBool, Sem.run_bind, Sem.run_pure, Result.andThen_ok]
        cases b
        · rw [hd' rfl]; rfl
        · rfl
      rw [this]
      exact ⟨rfl, rfl⟩
    · have h3 := (hs'.era (σ' := σ) hT hn W hW).put (d := p.dst) (v := .bool (b || b2)) (x := .v (.bool (b || b2))) (TmpOK.v_ rfl)
      rw [hpd] at h3 ⊢
      exact h2 _ _ _ _ _ h3
  cases b with
  | false =>
    refine wpQuiet_mono ?_ _ _ (h1 rfl a w S vals bss hst)
    rintro a' ⟨σ', hs', e1, e2, e3, e4⟩
    refine fin a' σ' hs' e1 e2 e4 fun _ => ?_
    exact hs'.st.bool (c := .tmp d) (by simp [noneBig, e2, hdn]) rfl e3
  | true =>
    refine wpQuiet_skip (b := true) ho' hd seg a (by rw [hst.2.1]; exact hc) hcv (fun o ho => ⟨(hseg o ho).1, fun h => ((hseg o ho).2 c h).2 rfl⟩) fun a' q1 q2 q3 => ?_
    have hst' : StI C ⟨era W σ.env, σ.T, σ.n⟩ a' w S vals bss := by
      refine ⟨by rw [q1]; exact hst.1, by rw [q2]; exact hst.2.1, hst.2.2.1, fun t ht => ?_⟩
      show TmpOK _ _ _ _ _ _ (era W σ.env t)
      unfold era
      cases hcc : W.contains t
      · rw [if_neg (by simp), q3 t fun o ho h => by have := ((hseg o ho).2 t h).1; rw [hcc] at this; cases this]
        exact hst.2.2.2 t ht
      · rw [if_pos rfl]; exact TmpOK.any_
    refine fin a' _ hst' rfl rfl (fun t ht => ?_) (fun h => by cases h)
    show era W σ.env t = σ.env t
    unfold era
    rw [if_neg (by rw [ht]; simp)]
/-- A region in the order of the text that only reads. -/
theorem wpList_of_quiet {P : Program} {Q' : Exit → Act → World → Prop} {D : World → Prop} : ∀ (l : List Oper) (a : Act) (w : World), D w → wpQuiet P ops D (fun a' => ∀ w', D w' → Q' .normal a' w') l a → wpList P ops Q' l a w
  | [], a, w, hw, h => h w hw
  | o :: l, a, w, hw, h => by
    refine wpList_step fun K' hK => ?_
    unfold wpQuiet at h
    split
    · rename_i hwn
      rw [if_pos hwn] at h
      exact Oper.wp_of_quiet hw (fun a' w' hw' hk => hK _ _ (wpList_of_quiet l a' w' hw' hk)) h
    · rename_i hwn
      rw [if_neg hwn] at h
      exact hK _ _ (wpList_of_quiet l _ w hw h)
theorem AWL.quiet {σ : Sta} (h : AQ C ops (Q .normal) l σ) : AWL C ops Q l σ := by
  intro a w ⟨hd, hn, S, vals, bss, hme, he⟩
  refine wpList_of_quiet (D := fun w' => Kept (fun _ => True) w w') l a w (Kept.refl _ _) ?_
  refine wpQuiet_mono ?_ _ _ (h a w S vals bss ⟨hd, hn, hme, he⟩)
  rintro a' ⟨σ', hs, hq⟩ w' hk'
  obtain ⟨h1, h2, h3, h4⟩ := hs.grow hk'
  exact ⟨σ', ⟨h1, h2, S, vals, bss, h3, h4⟩, hq⟩
end
end Go.Proofs.Ytjgbbffcjbmjmaa
namespace Go.Proofs.Ytjgbbffcjbmjmaa
open Go.RowKit
set_option linter.unusedSimpArgs false
set_option linter.unusedVariables false

section
variable {P : Program} {fn : Func} {σ : Sta} {e : Exit}
/-- The end of a body without slots that came in: its results, one behind the other. -/
inductive Rets (P : Program) (σ : Sta) : List ResultVar → List Nat → List AV → Prop
  | nil : Rets P σ [] [] []
  | tmp {t rs us y ys} (ht : t < σ.n) (hy : σ.env t = y) (hc : nrefA y = true) (h : Rets P σ rs us ys) : Rets P σ (.tmp t :: rs) us (y :: ys)
  | own {t rs us ys r k ty es len} (ht : t < σ.n) (hy : σ.env t = .sl r k 0 len) (hT : σ.T.slots[r]? = some (k, .own ty es)) (hl : len = es.length) (hu : r ∉ us) (h : Rets P σ rs us ys) : Rets P σ (.tmp t :: rs) (r :: us) (.own ty es :: ys)
  | cell {t ty rs us ys r k i j et es row n cs} (ht : t < σ.n) (hy : σ.env t = .ptr r k i j) (hT : σ.T.slots[r]? = some (k, .own et es)) (hrow : es[i]? = some row) (ha : aggB P ty = some true) (hs : sizeIs P ty n) (hn : j + n ≤ row.length) (hc : ((row.drop j).take n).map ldc = cs) (hr : cs.all nref1 = true) (h : Rets P σ rs us ys) : Rets P σ (.cell t ty :: rs) us (.agg cs :: ys)
  | cell1 {t ty rs us ys r k i j et es row y} (ht : t < σ.n) (hy : σ.env t = .ptr r k i j) (hT : σ.T.slots[r]? = some (k, .own et es)) (hrow : es[i]? = some row) (ha : aggB P ty = some false) {x : AV} (hx : row[j]? = some x) (hc : ldc x = y) (hr : nrefA y = true) (h : Rets P σ rs us ys) : Rets P σ (.cell t ty :: rs) us (y :: ys)
theorem clo_of_nref {n : Nat} {y : AV} (h : nrefA y = true) : cloA n y = true := by
  have one : ∀ x, nref1 x = true → clo1 n x = true := fun x h => by cases x <;> first | rfl | cases h
  cases y with
  | agg cs =>
    simp only [nrefA, cloA, List.all_eq_true] at h ⊢
    exact fun x hx => one x (h x hx)
  | _ => simp only [nrefA, cloA] at h ⊢; exact one _ h
theorem Rets.out {n0 : Nat} : ∀ {rs : List ResultVar} {us : List Nat} {ys : List AV}, Rets P σ rs us ys → (∀ r ∈ us, n0 ≤ r) → ∃ zs, RL (ResIs P σ) rs zs ∧ Gives σ.T n0 us zs ys
  | _, _, _, .nil, _ => ⟨[], RL.nil, .nil⟩
  | _, _, _, .tmp ht hy hc h, hu => by
    obtain ⟨zs, h1, h2⟩ := h.out hu
    exact ⟨_, RL.cons ⟨ht, hy⟩ h1, .keep (clo_of_nref hc) h2⟩
  | _, _, _, .own ht hy hT hl hn h, hu => by
    obtain ⟨zs, h1, h2⟩ := h.out fun r hr => hu r (by simp [hr])
    exact ⟨_, RL.cons ⟨ht, hy⟩ h1, .own hT hl (hu _ (by simp)) hn h2⟩
  | _, _, _, .cell ht hy hT hrow ha hs hn hc hr h, hu => by
    obtain ⟨zs, h1, h2⟩ := h.out hu
    exact ⟨_, RL.cons ⟨ht, _, _, _, _, _, _, _, hy, hT, hrow, .inl ⟨ha, _, hs, hn, by exact hc, _, rfl⟩⟩ h1, .keep (clo_of_nref hr) h2⟩
  | _, _, _, .cell1 ht hy hT hrow ha hx hc hr h, hu => by
    obtain ⟨zs, h1, h2⟩ := h.out hu
    exact ⟨_, RL.cons ⟨ht, _, _, _, _, _, _, _, hy, hT, hrow, .inr ⟨ha, _, hx, hc⟩⟩ h1, .keep (clo_of_nref hr) h2⟩
theorem RQ.of {n0 : Nat} {rs : List ResultVar} {us : List Nat} {ys outs : List AV} (he : e = .ret ∨ e = .normal) (hr : fn.results.toList = rs) (h : Rets P σ rs us ys) (hu : ∀ r ∈ us, n0 ≤ r) (hl : outs.length = n0) (ho : ∀ (r : Nat) (x : AV), outs[r]? = some x → σ.T.slots[r]? = some (0, x)) : RQ P fn n0 (fun a b => a = ys ∧ b = outs) e σ := by
  obtain ⟨zs, h1, h2⟩ := h.out hu
  rcases he with rfl | rfl <;> exact ⟨zs, ys, us, outs, by rw [hr]; exact h1, h2, hl, ho, rfl, rfl⟩
theorem RQ.of0 {rs : List ResultVar} {us : List Nat} {ys : List AV} (hr : fn.results.toList = rs) (h : Rets P σ rs us ys) (he : e = .ret ∨ e = .normal := by first | exact .inl rfl | exact .inr rfl) : RQ P fn 0 (fun a b => a = ys ∧ b = []) e σ :=
  RQ.of he hr h (fun _ _ => Nat.zero_le _) rfl (by simp)
end
/-- A state that is known at some places. -/
def updL (env : Nat → AV) : List (Nat × AV) → (Nat → AV)
  | [] => env
  | (t, x) :: l => upd (updL env l) t x
def AllEq (env : Nat → AV) : List (Nat × AV) → Prop
  | [] => True
  | (t, x) :: l => env t = x ∧ AllEq env l
theorem updL_self {env : Nat → AV} : ∀ {l : List (Nat × AV)}, AllEq env l → updL env l = env
  | [], _ => rfl
  | (t, x) :: l, ⟨h1, h2⟩ => by
    funext q
    unfold updL upd
    rw [updL_self h2]
    split
    · rename_i h; rw [h, h1]
    · rfl
section
variable {C : Cx} {Q : Exit → Sta → Prop} {σ : Sta}
/-- A loop; i says in which state a round begins. -/
theorem AW.loopI {ι : Type} {c : Code} (l : ι → List (Nat × AV)) (T : ι → Sl) (H : ι → Prop) (μ : ι → Nat) (i0 : ι) (h0 : H i0) (he : AllEq σ.env (l i0)) (hT : σ.T = T i0)
    (round : ∀ i ρ, H i → AW C c (thenE (fun σ' => ∃ i', H i' ∧ μ i' < μ i ∧ AllEq σ'.env (l i') ∧ σ'.T = T i' ∧ σ'.n = σ.n) Q) ⟨updL ρ (l i), T i, σ.n⟩) : AW C (.loop c) Q σ := by
  intro a w hs b k cs
  have key : ∀ n i σ' a w, μ i = n → H i → AllEq σ'.env (l i) → σ'.T = T i → σ'.n = σ.n → St C σ' a w →
      ∃ e a' w', hat C Q e a' w' ∧ Arrives C.P (lone (b.at a (.code c :: .inLoop c :: k)) cs w) b k cs e a' w' := by
    intro n
    induction n using Nat.strongRecOn with
    | _ n ih =>
      intro i σ' a w hi hH he' hT' hn' hs
      have hr := round i σ'.env hH
      rw [updL_self he', ← hT', ← hn'] at hr
      obtain ⟨e, a₁, w₁, ⟨σ₁, hs₁, hq⟩, harr⟩ := hr a w hs b (.inLoop c :: k) cs
      cases e with
      | normal =>
        obtain ⟨i', g1, g2, g3, g4, g5⟩ := hq
        obtain ⟨e₂, a₂, w₂, hq₂, harr₂⟩ := ih (μ i') (hi ▸ g2) i' σ₁ a₁ w₁ rfl g1 g3 g4 (by rw [g5, hn']) hs₁
        exact ⟨e₂, a₂, w₂, hq₂, .of_steps (Steps.trans harr (.one step_inLoop)) harr₂⟩
      | exit id => exact ⟨_, a₁, w₁, ⟨σ₁, hs₁, hq⟩, .pass (x := .inLoop c) rfl (fun _ _ => .inl (by simp)) harr⟩
      | goto l => exact ⟨_, a₁, w₁, ⟨σ₁, hs₁, hq⟩, .pass (x := .inLoop c) rfl (fun _ _ => .inl (by simp)) harr⟩
      | ret => exact ⟨_, a₁, w₁, ⟨σ₁, hs₁, hq⟩, .pass (x := .inLoop c) rfl (fun _ _ => .inl (by simp)) harr⟩
      | panic ch => exact ⟨_, a₁, w₁, ⟨σ₁, hs₁, hq⟩, .pass (x := .inLoop c) rfl (fun _ _ => .inl (by simp)) harr⟩
      | outgrown => exact ⟨_, a₁, w₁, ⟨σ₁, hs₁, hq⟩, .pass (x := .inLoop c) rfl (fun _ _ => .inl (by simp)) harr⟩
  obtain ⟨e, a', w', hq, harr⟩ := key _ i0 σ a w rfl h0 he hT rfl hs
  exact ⟨e, a', w', hq, .of_steps (.one step_loop) harr⟩
end
/-! ### Reading the environment -/
theorem evA_tmp {env : Nat → AV} {t : Nat} : evA env (.tmp t) = env t := rfl
theorem evA_int {env : Nat → AV} {k : IntKind} {n : Int} : evA env (.const (.int k n)) = .v (.int k n) := rfl
theorem evA_bool {env : Nat → AV} {b : Bool} : evA env (.const (.bool b)) = .v (.bool b) := rfl
theorem evA_str {env : Nat → AV} {s : ByteArray} : evA env (.const (.string s)) = .v (.string s) := rfl
theorem evA_slice {env : Nat → AV} {a : Option Addr} {n c : Nat} : evA env (.const (.slice a n c)) = .v (.slice a n c) := rfl
theorem evA_func {env : Nat → AV} {f : FuncId} : evA env (.func f) = .v (.func (.func f) #[] #[]) := rfl
theorem putE_some {env : Nat → AV} {d : Nat} {x : AV} : putE env (some d) x = upd env d x := rfl
theorem putE_none {env : Nat → AV} {x : AV} : putE env none x = env := rfl
theorem upd_get {env : Nat → AV} {d t : Nat} {x : AV} : upd env d x t = if t = d then x else env t := rfl
theorem era_get {W : List Nat} {env : Nat → AV} {t : Nat} : era W env t = if W.contains t then .any else env t := rfl
end Go.Proofs.Ytjgbbffcjbmjmaa
namespace Go.Proofs.Ytjgbbffcjbmjmaa
open Go.RowKit
set_option linter.unusedSimpArgs false
set_option linter.unusedVariables false

section
variable {C : Cx} {o : Oper} {ev : Operand → AV} {T : Sl} {t yt : TypeId} {p q : Operand} {x y : Int}
theorem op_addi (ho : o.op = .binOp .add t p q yt) (hp : ev p = .v (.int .i64 x)) (hq : ev q = .v (.int .i64 y)) (h : -9223372036854775808 ≤ x + y ∧ x + y ≤ 9223372036854775807) : OpP C o ev T (.v (.int .i64 (x + y))) := op_add ho hp hq (IntWalk.i64_in _ h)
theorem op_subi (ho : o.op = .binOp .sub t p q yt) (hp : ev p = .v (.int .i64 x)) (hq : ev q = .v (.int .i64 y)) (h : -9223372036854775808 ≤ x - y ∧ x - y ≤ 9223372036854775807) : OpP C o ev T (.v (.int .i64 (x - y))) := op_sub ho hp hq (IntWalk.i64_in _ h)
theorem op_muli (ho : o.op = .binOp .mul t p q yt) (hp : ev p = .v (.int .i64 x)) (hq : ev q = .v (.int .i64 y)) (h : -9223372036854775808 ≤ x * y ∧ x * y ≤ 9223372036854775807) : OpP C o ev T (.v (.int .i64 (x * y))) := op_mul ho hp hq (IntWalk.i64_in _ h)
theorem op_quoi (ho : o.op = .binOp .quo t p q yt) (hp : ev p = .v (.int .i64 x)) (hq : ev q = .v (.int .i64 y)) (h : 0 ≤ x ∧ x ≤ 9223372036854775807 ∧ 0 < y) : OpP C o ev T (.v (.int .i64 (x / y))) := op_quo ho hp hq (by omega) (by
  rw [Int.tdiv_eq_ediv_of_nonneg h.1]
  refine IntWalk.i64_in _ ⟨?_, ?_⟩
  · have := Int.ediv_nonneg h.1 (Int.le_of_lt h.2.2); omega
  · have := Int.ediv_le_self y h.1; omega)
theorem op_remi (ho : o.op = .binOp .rem t p q yt) (hp : ev p = .v (.int .i64 x)) (hq : ev q = .v (.int .i64 y)) (h : 0 ≤ x ∧ 0 < y) : OpP C o ev T (.v (.int .i64 (x % y))) := op_rem ho hp hq (by omega) (Int.tmod_eq_emod_of_nonneg h.1)
end
theorem get_map {α β : Type} {f : α → β} {xs : List α} {m : Nat} (h : m < xs.length) : (xs.map f)[m]? = some (f xs[m]) := by simp [h]
theorem ldc_v {x : Value} : ldc (.v x) = .v x := rfl
theorem ldc_ro {x : List (List AV)} : ldc (.ro x) = .ro x := rfl
theorem ldc_rof {x : List (List AV)} : ldc (.rof x) = .rof x := rfl
theorem ldc_rop {x : List AV} : ldc (.rop x) = .rop x := rfl
theorem ldc_own {e : TypeId} {x : List (List AV)} : ldc (.own e x) = .sln x.length := rfl
theorem ldc_sln {n : Nat} : ldc (.sln n) = .sln n := rfl
theorem ldc_any : ldc .any = .any := rfl
theorem stc_v {x : Value} : stc (.v x) = .v x := rfl
theorem stc_ro {x : List (List AV)} : stc (.ro x) = .ro x := rfl
theorem stc_rof {x : List (List AV)} : stc (.rof x) = .rof x := rfl
theorem stc_rop {x : List AV} : stc (.rop x) = .rop x := rfl
theorem stc_sln {n : Nat} : stc (.sln n) = .sln n := rfl
theorem stc_any : stc .any = .any := rfl
theorem stc_sl {a b c d : Nat} : stc (.sl a b c d) = .any := rfl
theorem stc_ptr {a b c d : Nat} : stc (.ptr a b c d) = .any := rfl
section
variable {C : Cx} {K : Sta → Prop} {ops : Array Oper} {o : Oper} {l : List Oper} {env : Nat → AV} {T : Sl} {n : Nat}
/-- The operation without the guard (g, b). -/
def ung (g : Nat) (b : Bool) (o : Oper) : Oper := ⟨o.dst, o.op, o.type, o.pos, o.after, if o.guard == some (g, b) then none else o.guard⟩
theorem ung_dst (g : Nat) (b : Bool) (o : Oper) : (ung g b o).dst = o.dst := rfl
theorem ung_op (g : Nat) (b : Bool) (o : Oper) : (ung g b o).op = o.op := rfl
theorem execOp_ung (g : Nat) (b : Bool) (o : Oper) (ρ : Operand → Value) : execOp ρ (ung g b o) = execOp ρ o := by
  cases o; rfl
theorem wpQuiet_ung {P : Program} {D : World → Prop} {Q : Act → Prop} {g c : Nat} {o' : Oper} {b : Bool} (ho' : ops[g]? = some o') (hd : o'.dst = some c) : ∀ (seg : List Oper) (a : Act), c < a.tmps.size → a.eval (.tmp c) = .bool b → (∀ o ∈ seg, o.dst ≠ some c) → wpQuiet P ops D Q (seg.map (ung g b)) a → wpQuiet P ops D Q seg a
  | [], a, _, _, _, h => h
  | o :: seg, a, hlt, hb, hs, h => by
    have hne := hs o (by simp)
    have keep : ∀ v, (a.put o.dst v).eval (.tmp c) = .bool b := fun v => by
      show (a.put o.dst v).tmps.getD c undef = _
      rw [Act.getD_put, if_neg (fun h => hne h.1)]; exact hb
    have hwant : Region.wanted (ung g b o) (yielded ops a.tmps) = Region.wanted o (yielded ops a.tmps) := by
      unfold ung
      by_cases hg : o.guard = some (g, b)
      · have e : (a.tmps)[c]? = some (.bool b) := by
          have hb' := hb
          simp [Act.eval, hlt] at hb'
          simp [hlt, hb']
        simp [Region.wanted, hg, yielded, ho', hd, e]
      · have : (o.guard == some (g, b)) = false := by rw [beq_eq_false_iff_ne]; exact hg
        simp [Region.wanted, this]
    rw [List.map_cons] at h
    unfold wpQuiet at h ⊢
    rw [hwant] at h
    split
    · rename_i hw
      rw [if_pos hw] at h
      obtain ⟨v, h1, h2⟩ := h
      refine ⟨v, fun w hw' => ?_, wpQuiet_ung ho' hd seg _ (by rw [Act.size_put]; exact hlt) (keep v) (fun o h => hs o (by simp [h])) h2⟩
      have := h1 w hw'
      unfold Oper.quietAt at this ⊢
      rw [execOp_ung] at this
      exact this
    · rename_i hw
      rw [if_neg hw] at h
      exact wpQuiet_ung ho' hd seg _ (by rw [Act.size_put]; exact hlt) (keep undef) (fun o h => hs o (by simp [h])) h
theorem AQ.ung {σ : Sta} {seg : List Oper} {g c : Nat} {o' : Oper} {b : Bool} (ho' : ops[g]? = some o') (hd : o'.dst = some c) (hc : c < σ.n) (hv : σ.env c = .v (.bool b)) (hs : ∀ o ∈ seg, o.dst ≠ some c) (h : AQ C ops K (seg.map (ung g b)) σ) : AQ C ops K seg σ := by
  intro a w S vals bss hst
  exact wpQuiet_ung ho' hd seg a (by rw [hst.2.1]; exact hc) (hst.st.bool (c := .tmp c) (by simpa [noneBig] using hc) rfl hv) hs (h a w S vals bss hst)
/-- 'a && b' ahead: the segment under the guard (g, true), then the pick. -/
theorem aqAnd' {g c d pd : Nat} {b b2 : Bool} {p : Oper} {rest : List Oper} {o' : Oper} (seg : List Oper) (W : List Nat) (hl : l = seg ++ p :: rest) (hg0 : (match l with | o :: _ => o.guard | [] => none) = some (g, true)) (ho' : ops[g]? = some o') (hd : o'.dst = some c) (hc : Nat.ble (c + 1) n = true) (hv : env c = .v (.bool b)) (hs : seg.all (fun o => (o.guard == some (g, true)) && (match o.dst with | some t => W.contains t && t != c | none => true)) = true) (hp : p.op = .pick (.tmp c) (.tmp d) (.const (.bool false))) (hpg : p.guard = none) (hpd : p.dst = some pd) (hdn : Nat.ble (d + 1) n = true) (hcW : W.contains c = false)
    (h1 : b = true → AQ C ops (segK ⟨env, T, n⟩ W d b2) (seg.map (ung g true)) ⟨env, T, n⟩) (h2 : AQ C ops K rest ⟨upd (era W env) pd (.v (.bool (b && b2))), T, n⟩) : AQ C ops K l ⟨env, T, n⟩ :=
  aqAnd seg rest p W hl ho' hd (Nat.le_of_ble_eq_true hc) hv hs hp hpg hpd (Nat.le_of_ble_eq_true hdn) hcW (fun hb => AQ.ung ho' hd (Nat.le_of_ble_eq_true hc) (by subst hb; exact hv) (fun o ho h => by
    have := List.all_eq_true.1 hs o ho
    rw [h] at this
    simp at this) (h1 hb)) h2
theorem aqOr' {g c d pd : Nat} {b b2 : Bool} {p : Oper} {rest : List Oper} {o' : Oper} (seg : List Oper) (W : List Nat) (hl : l = seg ++ p :: rest) (hg0 : (match l with | o :: _ => o.guard | [] => none) = some (g, false)) (ho' : ops[g]? = some o') (hd : o'.dst = some c) (hc : Nat.ble (c + 1) n = true) (hv : env c = .v (.bool b)) (hs : seg.all (fun o => (o.guard == some (g, false)) && (match o.dst with | some t => W.contains t && t != c | none => true)) = true) (hp : p.op = .pick (.tmp c) (.const (.bool true)) (.tmp d)) (hpg : p.guard = none) (hpd : p.dst = some pd) (hdn : Nat.ble (d + 1) n = true) (hcW : W.contains c = false)
    (h1 : b = false → AQ C ops (segK ⟨env, T, n⟩ W d b2) (seg.map (ung g false)) ⟨env, T, n⟩) (h2 : AQ C ops K rest ⟨upd (era W env) pd (.v (.bool (b || b2))), T, n⟩) : AQ C ops K l ⟨env, T, n⟩ :=
  aqOr seg rest p W hl ho' hd (Nat.le_of_ble_eq_true hc) hv hs hp hpg hpd (Nat.le_of_ble_eq_true hdn) hcW (fun hb => AQ.ung ho' hd (Nat.le_of_ble_eq_true hc) (by subst hb; exact hv) (fun o ho h => by
    have := List.all_eq_true.1 hs o ho
    rw [h] at this
    simp at this) (h1 hb)) h2
/-- A segment has come to its end. -/
theorem aqSeg {env0 : Nat → AV} {T0 : Sl} {n0 : Nat} {W : List Nat} {d : Nat} {b2 : Bool} (hT : T = T0) (hn : n = n0) (hv : env d = .v (.bool b2)) (hW : ∀ t, W.contains t = false → env t = env0 t) : AQ C ops (segK ⟨env0, T0, n0⟩ W d b2) [] ⟨env, T, n⟩ := AQ.nil ⟨hT, hn, hv, hW⟩
theorem upd_out {env env0 : Nat → AV} {W : List Nat} {d : Nat} {x : AV} (hd : W.contains d = true) (h : ∀ t, W.contains t = false → env t = env0 t) : ∀ t, W.contains t = false → upd env d x t = env0 t := fun t ht => by
  unfold upd
  rw [if_neg]
  · exact h t ht
  · intro e; subst e; rw [hd] at ht; cases ht
theorem era_out {env env0 : Nat → AV} {W W' : List Nat} (hd : W'.all (fun t => W.contains t) = true) (h : ∀ t, W.contains t = false → env t = env0 t) : ∀ t, W.contains t = false → era W' env t = env0 t := fun t ht => by
  unfold era
  rw [if_neg]
  · exact h t ht
  · intro e
    have := List.all_eq_true.1 hd t (by simpa using e)
    rw [this] at ht; cases ht
theorem aqYes {x : AV} (g d : Nat) {b : Bool} {o' : Oper} (hj : OpQ C o (evA env) T x) (h : AQ C ops K l ⟨putE env o.dst x, T, n⟩) (hv : env d = .v (.bool b)) (hg : o.guard = some (g, b)) (ho' : ops[g]? = some o') (hd : o'.dst = some d) (hdn : Nat.ble (d + 1) n = true) (ho : opsOk o n = true := by rfl) : AQ C ops K (o :: l) ⟨env, T, n⟩ := AQ.yes hg ho' hd (Nat.le_of_ble_eq_true hdn) hv ho hj h
end
end Go.Proofs.Ytjgbbffcjbmjmaa
namespace Go.Proofs.Ytjgbbffcjbmjmaa
open Go.RowKit
set_option linter.unusedSimpArgs false
set_option linter.unusedVariables false

/-! ### Calls that lend a slot for writing -/
section
variable {C : Cx} {T : Sl} {S S2 : Nat → Prop} {vals : List Value} {bss : List (List Nat)} {w w' : World}
theorem Mem.set2 {r k : Nat} {x x' : AV} {v : Value} {bs bs' : List Nat} (hm : Mem C T S vals bss w) (hs : T.slots[r]? = some (k, x)) (hv : vals[r]? = some v) (hb : bss[r]? = some bs) (hk : Kept (fun q => q ∉ bs) w w')
    (h1S : ∀ q, S q → S2 q) (h2S : ∀ q, S2 q → S q ∨ ((w.heap.size ≤ q ∨ q ∈ bs) ∧ q < w'.heap.size ∧ q ∉ bs')) (hr : Rep C.P S2 w' bs' v x') (hn : bs'.Nodup) (hsub : ∀ b ∈ bs', b ∈ bs ∨ w.heap.size ≤ b)
    (ho : ∀ e es, x' = .own e es → ∃ es0, x = .own e es0 ∧ es0.length = es.length) (hom : ∀ b ks, x' = .om b ks → ∃ ks0, x = .om b ks0) :
    Mem C ⟨T.slots.set r (k, x'), T.ep⟩ S2 vals (bss.set r bs') w' ∧ Follows C.P S w T vals S2 w' ⟨T.slots.set r (k, x'), T.ep⟩ vals := by
  have hrl : r < T.slots.length := (List.getElem?_eq_some_iff.1 hs).1
  have hkS : ∀ q, q < w.heap.size → S q → q ∉ bs := fun q _ hq hqb => hm.apart r bs hb q hqb hq
  constructor
  · refine ⟨hm.kept.then hk fun q hq hq' hqb => ?_, fun q h => h1S q (hm.s0 q h), fun q h => ?_, fun q h => ?_, by simp [hm.nv], by simp [hm.nb], ?_, ?_, ?_, ?_, ?_, ?_, ?_, hm.pos⟩
    · rcases hm.mine r bs hb q hqb with h | h
      · exact hq' h
      · omega
    · rcases h2S q h with h | ⟨h | h, _⟩
      · exact hm.sub q h
      · have := hm.kept.size; exact .inr (.inr (by omega))
      · exact .inr (hm.mine r bs hb q h)
    · rcases h2S q h with h | ⟨_, h, _⟩
      · exact Nat.lt_of_lt_of_le (hm.lt q h) hk.size
      · exact h
    · intro q kq y u b1 h1 h2 h3
      rw [getElem?_set_ _ _ _ _ hrl] at h1
      rw [getElem?_set_ _ _ _ _ (by rw [hm.nb]; exact hrl)] at h3
      by_cases h : r = q
      · rw [if_pos h] at h1 h3
        subst h
        rw [hv] at h2
        injection h1 with h1; injection h1 with _ h1
        injection h2 with h2; injection h3 with h3
        subst h1; subst h2; subst h3
        exact hr
      · rw [if_neg h] at h1 h3
        exact ((hm.rep q kq y u b1 h1 h2 h3).kept hk hkS fun b hb' hbb => hm.disj r q bs b1 h hb h3 b hbb hb').mono fun q _ => h1S q
    · intro q b1 h3
      rw [getElem?_set_ _ _ _ _ (by rw [hm.nb]; exact hrl)] at h3
      split at h3
      · injection h3 with h3; subst h3; exact hn
      · exact hm.nodup q b1 h3
    · intro q q' b1 b2 hne h1 h2 b hb1 hb2
      rw [getElem?_set_ _ _ _ _ (by rw [hm.nb]; exact hrl)] at h1 h2
      split at h1
      · rename_i e1
        injection h1 with h1; subst h1
        rw [if_neg (fun e2 => hne (e1.symm.trans e2))] at h2
        rcases hsub b hb1 with h | h
        · exact hm.disj r q' bs b2 (fun e2 => hne (e1.symm.trans e2)) hb h2 b h hb2
        · have := hm.blt h2 b hb2; omega
      · rename_i e1
        split at h2
        · injection h2 with h2; subst h2
          rename_i e2
          rcases hsub b hb2 with h | h
          · exact hm.disj r q bs b1 e1 hb h1 b h hb1
          · have := hm.blt h1 b hb1; omega
        · exact hm.disj q q' b1 b2 hne h1 h2 b hb1 hb2
    · intro q b1 h1 b hb1 hSb
      rw [getElem?_set_ _ _ _ _ (by rw [hm.nb]; exact hrl)] at h1
      split at h1
      · injection h1 with h1; subst h1
        rcases h2S b hSb with hSb | ⟨_, _, h⟩
        · rcases hsub b hb1 with h | h
          · exact hm.apart r bs hb b h hSb
          · have := hm.lt b hSb; omega
        · exact h hb1
      · rename_i e1
        rcases h2S b hSb with hSb | ⟨h | h, _⟩
        · exact hm.apart q b1 h1 b hb1 hSb
        · have := hm.blt h1 b hb1; omega
        · exact hm.disj r q bs b1 e1 hb h1 b h hb1
    · intro q b1 h1 b hb1
      rw [getElem?_set_ _ _ _ _ (by rw [hm.nb]; exact hrl)] at h1
      split at h1
      · injection h1 with h1; subst h1
        rcases hsub b hb1 with h | h
        · exact hm.mine r bs hb b h
        · have := hm.kept.size; right; omega
      · exact hm.mine q b1 h1 b hb1
    · intro q y hlt h
      rw [getElem?_set_ _ _ _ _ hrl] at h
      split at h
      · rename_i e1
        injection h with h; injection h with h _
        subst e1
        exact hm.root r x hlt (by rw [hs, h])
      · exact hm.root q y hlt h
    · intro q kq y h
      rw [getElem?_set_ _ _ _ _ hrl] at h
      show kq < T.ep
      split at h
      · injection h with h; injection h with h _
        have := hm.ver r k x hs
        omega
      · exact hm.ver q kq y h
  · intro u y h
    have old : ∀ (q kq : Nat) (y' : AV), (T.slots.set r (k, x'))[q]? = some (kq, y') → T.slots[q]? = some (kq, y') ∨ (r = q ∧ kq = k ∧ x' = y') := fun q kq y' h => by
      rw [getElem?_set_ _ _ _ _ hrl] at h
      split at h
      · rename_i e1
        injection h with h; injection h with h h'
        exact .inr ⟨e1, h.symm, h'⟩
      · exact .inl h
    cases y with
    | sl q kq off len =>
      refine ⟨h.1, h.2.1, fun e es v2 sz h1 h2 h3 => ?_⟩
      rcases old q kq _ h1 with h4 | ⟨rfl, rfl, hx⟩
      · exact h.2.2 e es v2 sz h4 h2 h3
      · obtain ⟨es0, hx0, hl⟩ := ho e es hx
        rw [← hl]
        exact h.2.2 e es0 v2 sz (by rw [hs, hx0]) h2 h3
    | ptr q kq i j =>
      refine ⟨h.1, h.2.1, fun e es v2 sz h1 h2 h3 => ?_⟩
      rcases old q kq _ h1 with h4 | ⟨rfl, rfl, hx⟩
      · exact h.2.2 e es v2 sz h4 h2 h3
      · obtain ⟨es0, hx0, hl⟩ := ho e es hx
        rw [← hl]
        exact h.2.2 e es0 v2 sz (by rw [hs, hx0]) h2 h3
    | mp q kq =>
      refine ⟨h.1, h.2.1, fun b ks v2 h1 h2 => ?_⟩
      rcases old q kq _ h1 with h4 | ⟨rfl, rfl, hx⟩
      · exact h.2.2 b ks v2 h4 h2
      · obtain ⟨ks0, hx0⟩ := hom b ks hx
        exact h.2.2 b ks0 v2 (by rw [hs, hx0]) h2
    | _ => exact RefOK.kept (T := T) h hk hkS h1S
theorem unp_ok2 : ∀ (ys : List AV) (us : List Value) (bsr : List (List Nat)) (T : Sl) (vals : List Value) (bss : List (List Nat)), Mem C T S vals bss w → us.length = ys.length → bsr.length = ys.length →
    (∀ (i : Nat) (u : Value) (y : AV) (bs : List Nat), us[i]? = some u → ys[i]? = some y → bsr[i]? = some bs → Rep C.P S w bs u y ∨ (bs = [] ∧ AggOK C.P S w T vals u y)) →
    Own2 bsr → (∀ b, InL bsr b → ¬ InL bss b ∧ ¬ S b ∧ (b ∈ C.own0 ∨ C.w0.heap.size ≤ b)) →
    ∃ vals' bss', Mem C (unp ys T).2 S vals' bss' w ∧ Follows C.P S w T vals S w (unp ys T).2 vals' ∧ RL (AggOK C.P S w (unp ys T).2 vals') us (unp ys T).1
  | [], us, bsr, T, vals, bss, hm, h1, h2, _, _, _ => by
    have : us = [] := List.eq_nil_of_length_eq_zero h1
    subst this
    exact ⟨vals, bss, hm, Follows.refl, RL.nil⟩
  | y :: ys, [], _, _, _, _, _, h1, _, _, _, _ => by simp at h1
  | y :: ys, u :: us, [], _, _, _, _, _, h2, _, _, _ => by simp at h2
  | y :: ys, u :: us, bs :: bsr, T, vals, bss, hm, h1, h2, h3, h4, h5 => by
    have hd := h3 0 u y bs rfl rfl rfl
    have htl : ∀ (i : Nat) (u : Value) (y : AV) (b : List Nat), us[i]? = some u → ys[i]? = some y → bsr[i]? = some b → Rep C.P S w b u y ∨ (b = [] ∧ AggOK C.P S w T vals u y) := fun i u y b q1 q2 q3 => h3 (i + 1) u y b (by simpa using q1) (by simpa using q2) (by simpa using q3)
    have hown : Own2 bsr := ⟨fun r b h => h4.nodup (r + 1) b (by simpa using h), fun r r' b b' hne q1 q2 => h4.disj (r + 1) (r' + 1) b b' (by omega) (by simpa using q1) (by simpa using q2)⟩
    have hin : ∀ b, InL bsr b → InL (bs :: bsr) b := fun b ⟨r, b1, q1, q2⟩ => ⟨r + 1, b1, by simpa using q1, q2⟩
    have plain : (∀ e es, y ≠ .own e es) → AggOK C.P S w T vals u y ∧ bs = bs → ∃ vals' bss', Mem C (unp (y :: ys) T).2 S vals' bss' w ∧ Follows C.P S w T vals S w (unp (y :: ys) T).2 vals' ∧ RL (AggOK C.P S w (unp (y :: ys) T).2 vals') (u :: us) (unp (y :: ys) T).1 := by
      intro hne ⟨ha, _⟩
      obtain ⟨vals', bss', g1, g2, g3⟩ := unp_ok2 ys us bsr T vals bss hm (by simpa using h1) (by simpa using h2) htl hown fun b hb => h5 b (hin b hb)
      have e : unp (y :: ys) T = (y :: (unp ys T).1, (unp ys T).2) := by
        cases y <;> first | rfl | (exact absurd rfl (hne _ _))
      rw [e]
      exact ⟨vals', bss', g1, g2, RL.cons (AggOK.follows g2 ha) g3⟩
    by_cases ho : ∃ e es, y = .own e es
    · obtain ⟨e, es, rfl⟩ := ho
      have hrep : ∃ b0, Rep C.P S w b0 u (.own e es) ∧ b0.Nodup ∧ (∀ b ∈ b0, b ∈ bs) := by
        rcases hd with h | ⟨rfl, h⟩
        · exact ⟨bs, h, h4.nodup 0 bs rfl, fun b h => h⟩
        · exact ⟨[], h, by simp, by simp⟩
      obtain ⟨b0, hr, hnd, hsub⟩ := hrep
      obtain ⟨hm', hf⟩ := hm.push2 hr hnd fun b hb => h5 b ⟨0, bs, rfl, hsub b hb⟩
      obtain ⟨vals', bss', g1, g2, g3⟩ := unp_ok2 ys us bsr (pushT T (.own e es)) (vals ++ [u]) (bss ++ [b0]) hm' (by simpa using h1) (by simpa using h2) (fun i u y b q1 q2 q3 => (htl i u y b q1 q2 q3).imp id fun h => ⟨h.1, AggOK.follows hf h.2⟩) hown fun b hb => by
        obtain ⟨q1, q2, q3⟩ := h5 b (hin b hb)
        refine ⟨fun ⟨r, b1, p1, p2⟩ => ?_, q2, q3⟩
        rw [getElem?_snoc] at p1
        split at p1
        · exact q1 ⟨r, b1, p1, p2⟩
        · split at p1
          · injection p1 with p1
            subst p1
            obtain ⟨r', b2, p3, p4⟩ := hb
            exact h4.disj 0 (r' + 1) bs b2 (by omega) rfl (by simpa using p3) b (hsub b p2) p4
          · cases p1
      refine ⟨vals', bss', g1, fun u x h => g2 u x (hf u x h), RL.cons ?_ g3⟩
      have hp := push_sl (C := C) (S := S) (T := T) hm.nv hr
      exact AggOK.follows g2 (show AggOK C.P S w _ _ u (.sl T.slots.length T.ep 0 es.length) from hp)
    · refine plain (fun e es h => ho ⟨e, es, h⟩) ⟨?_, rfl⟩
      rcases hd with h | ⟨rfl, h⟩
      · cases h with
        | own => exact absurd ⟨_, _, rfl⟩ ho
        | any h => trivial
        | v h => exact Rep.v h
        | sln a b => exact Rep.sln a b
        | ro a b c d e f => exact Rep.ro a b c d e f
        | rof a b c d e => exact Rep.rof a b c d e
        | rop a b c => exact Rep.rop a b c
        | clo a b => exact Rep.clo a b
        | nm h => exact Rep.one h
        | byt => rfl
        | om => rfl
      · exact h
/-- References to the callee's slot 0 are references to the caller's slot. -/
def ren1 (r k : Nat) : AV → AV
  | .sl _ _ off len => .sl r k off len
  | .ptr _ _ i j => .ptr r k i j
  | .mp _ _ => .mp r k
  | x => x
def renA (r k : Nat) : AV → AV
  | .agg cs => .agg (cs.map (ren1 r k))
  | x => ren1 r k x
theorem ren1_ok {P : Program} {x : AV} {T' : Sl} {vals' : List Value} {v : Value} {r k : Nat} (hs : T'.slots[r]? = some (k, x)) (hv : vals'[r]? = some v) (hk : k < T'.ep) {u : Value} {y : AV} (h : RefOK P S w (insT [x]) [v] u y) (hc : clo1 1 y = true) : RefOK P S w T' vals' u (ren1 r k y) := by
  cases y with
  | sl q kq off len =>
    simp only [clo1, Bool.and_eq_true, beq_iff_eq, decide_eq_true_eq] at hc
    obtain ⟨hc1, rfl⟩ := hc
    obtain rfl : q = 0 := by omega
    refine ⟨hk, h.2.1, fun e es v2 sz h1 h2 h3 => ?_⟩
    rw [hs] at h1; injection h1 with h1; injection h1 with _ h1
    rw [hv] at h2; injection h2 with h2
    subst h2
    exact h.2.2 e es v sz (by rw [h1]; rfl) rfl h3
  | ptr q kq i j =>
    simp only [clo1, Bool.and_eq_true, beq_iff_eq, decide_eq_true_eq] at hc
    obtain ⟨hc1, rfl⟩ := hc
    obtain rfl : q = 0 := by omega
    refine ⟨hk, h.2.1, fun e es v2 sz h1 h2 h3 => ?_⟩
    rw [hs] at h1; injection h1 with h1; injection h1 with _ h1
    rw [hv] at h2; injection h2 with h2
    subst h2
    exact h.2.2 e es v sz (by rw [h1]; rfl) rfl h3
  | mp q kq =>
    simp only [clo1, Bool.and_eq_true, beq_iff_eq, decide_eq_true_eq] at hc
    obtain ⟨hc1, rfl⟩ := hc
    obtain rfl : q = 0 := by omega
    refine ⟨hk, h.2.1, fun b ks v2 h1 h2 => ?_⟩
    rw [hs] at h1; injection h1 with h1; injection h1 with _ h1
    rw [hv] at h2; injection h2 with h2
    subst h2
    exact h.2.2 b ks v (by rw [h1]; rfl) rfl
  | _ => exact h
theorem renA_ok {P : Program} {x : AV} {T' : Sl} {vals' : List Value} {v : Value} {r k : Nat} (hs : T'.slots[r]? = some (k, x)) (hv : vals'[r]? = some v) (hk : k < T'.ep) {u : Value} {y : AV} (h : AggOK P S w (insT [x]) [v] u y) (hc : cloA 1 y = true) : AggOK P S w T' vals' u (renA r k y) := by
  cases y with
  | any => trivial
  | agg cs =>
    obtain ⟨us, e, rl⟩ := h
    simp only [cloA, List.all_eq_true] at hc
    refine ⟨us, e, by simp [rl.1], fun i u x hu hx => ?_⟩
    rw [List.getElem?_map] at hx
    cases hq : cs[i]? with
    | none => rw [hq] at hx; cases hx
    | some c =>
      rw [hq] at hx
      simp only [Option.map_some, Option.some.injEq] at hx
      subst hx
      exact ren1_ok hs hv hk (rl.2 i u c hu hq) (hc c (List.mem_of_getElem? hq))
  | _ => simp only [AggOK, renA, ren1] at h ⊢; exact ren1_ok hs hv hk h hc
theorem Rep.ren {P : Program} {bs : List Nat} {u : Value} {y : AV} (h : Rep P S w bs u y) (r k : Nat) : Rep P S w bs u (renA r k y) := by
  cases y with
  | agg cs => exact absurd rfl (h.plain cs).1
  | sl => cases h
  | ptr => cases h
  | mp => cases h
  | _ => exact h
/-- What an argument is lent as, slot r being lent for writing. -/
inductive View1 (T : Sl) (r k : Nat) : AV → AV → Prop
  | base {y x} (h : View T false y x) : View1 T r k y x
  | ptr {i j} : View1 T r k (.ptr r k i j) (.ptr 0 0 i j)
  | sl {off len} : View1 T r k (.sl r k off len) (.sl 0 0 off len)
variable {o : Oper} {ev : Operand → AV}
theorem view1_ok (hm : Mem C T S vals bss w) {r k : Nat} {x0 : AV} {v : Value} (hs : T.slots[r]? = some (k, x0)) (hv : vals[r]? = some v) {y x : AV} (h : View1 T r k y x) {u : Value} (hu : TmpOK C.P S w T vals u y) : AggOK C.P S w (insT [x0]) [v] u x := by
  have low : ∀ (q kq : Nat) (z : AV), (insT [x0]).slots[q]? = some (kq, z) → q = 0 ∧ kq = 0 ∧ z = x0 := fun q kq z h => by
    cases q with
    | zero => simp [insT] at h; exact ⟨rfl, h.1.symm, h.2.symm⟩
    | succ q => simp [insT] at h
  cases h with
  | base h =>
    have h1 := view_ok hm h hu
    have h2 : AggOK C.P S w (insT []) [] u x := by
      have hl : ∀ k, lent false S bss k → S k := fun k h => h.resolve_right (by simp)
      cases x with
      | any => trivial
      | agg cs => obtain ⟨us, e, rl⟩ := h1; exact ⟨us, e, rl.mono fun u x h => RefOK.kept h (Kept.refl (fun _ => True) w) (fun _ _ _ => trivial) hl⟩
      | _ => simp only [AggOK] at h1 ⊢; exact RefOK.kept h1 (Kept.refl (fun _ => True) w) (fun _ _ _ => trivial) hl
    have hn : nrefA x = true := by
      cases h with
      | same h => exact h
      | nil => rfl
      | rof => rfl
    exact h2.nref hn fun _ h => h
  | ptr =>
    refine ⟨by simp [insT], hu.2.1, fun e es v2 sz h1 h2 h3 => ?_⟩
    obtain ⟨_, _, q⟩ := low _ _ _ h1
    have h2 : some v = some v2 := h2
    injection h2 with h2
    subst h2
    exact hu.2.2 e es v sz (by rw [hs, q]) hv h3
  | sl =>
    refine ⟨by simp [insT], hu.2.1, fun e es v2 sz h1 h2 h3 => ?_⟩
    obtain ⟨_, _, q⟩ := low _ _ _ h1
    have h2 : some v = some v2 := h2
    injection h2 with h2
    subst h2
    exact hu.2.2 e es v sz (by rw [hs, q]) hv h3
theorem op_call1 {f : FuncId} {args : Array Operand} {ts : Array TypeId} {r k : Nat} {x0 x1 : AV} {xs ys : List AV} (ho : o.op = .call { callee := .value (.func f), args := args, argTypes := ts }) (hf : Enters C.P f) (hsp : Fn C.P f [x0] xs ys [x1]) (hs : T.slots[r]? = some (k, x0)) (hv : RL (View1 T r k) (args.toList.map ev) xs)
    (hx1 : ∃ e es es', x0 = .own e es ∧ x1 = .own e es' ∧ es.length = es'.length) (hn : ys.all (cloA 1) = true) {x : AV} {T' : Sl} (hx : packR (unp (ys.map (renA r k)) ⟨T.slots.set r (k, x1), T.ep⟩).1 = x) (hT : (unp (ys.map (renA r k)) ⟨T.slots.set r (k, x1), T.ep⟩).2 = T') : OpJ C o ev T x T' := by
  intro a w S vals bss hm h K hK Q
  have hrl : r < T.slots.length := (List.getElem?_eq_some_iff.1 hs).1
  have hargs : ∀ y ∈ args, TmpOK C.P S w T vals (a.eval y) (ev y) := fun y hy => h y (by simp [ho, Op.operands, Call.operands]; exact .inr hy)
  obtain ⟨v, bs, hvr, hbr, hrep⟩ := hm.slot hs
  have hcame : Came C.P [x0] xs w S [v] [bs] (args.toList.map a.eval) := by
    refine ⟨hm.lt, rfl, rfl, fun q x u b h1 h2 h3 => ?_, ⟨fun q b h1 => ?_, fun q q' b b' hne h1 h2 => ?_⟩, fun b ⟨q, b1, h1, h2⟩ => ?_, by have := hv.1; simpa using this, fun i u x h1 h2 => ?_⟩
    · cases q with
      | zero => simp at h1 h2 h3; subst h1; subst h2; subst h3; exact hrep
      | succ q => simp at h1
    · cases q with
      | zero => simp at h1; subst h1; exact hm.nodup r _ hbr
      | succ q => simp at h1
    · cases q with
      | zero => cases q' with
        | zero => exact absurd rfl hne
        | succ q' => simp at h2
      | succ q => simp at h1
    · cases q with
      | zero => simp at h1; subst h1; exact hm.apart r _ hbr b h2
      | succ q => simp at h1
    · rw [List.getElem?_map] at h1
      cases hq : args.toList[i]? with
      | none => rw [hq] at h1; cases h1
      | some y =>
        rw [hq] at h1
        simp only [Option.map_some, Option.some.injEq] at h1
        subst h1
        exact view1_ok hm hs hvr (hv.2 i (ev y) x (by rw [List.getElem?_map, hq]; rfl) h2) (hargs y (Array.mem_toList_iff.1 (List.mem_of_getElem? hq)))
  have hc := hsp w S [v] [bs] _ hcame
  have hrun : (execOp a.eval o).run C.P w = .ok (.enter f (args.toList.map a.eval).toArray) w := by
    have e1 : (args.map a.eval) = (args.toList.map a.eval).toArray := by apply Array.toList_inj.1; simp
    simp only [execOp, ho, resolve, Act.eval, Deferred.ofValue, Sem.run_bind, Sem.run_pure, Result.andThen_ok, invoke]
    rw [← e1]
    simpa using hf _ w
  unfold Oper.wp
  rw [hrun, Oper.upon_enter]
  refine hc.mono ?_
  rintro e w' ⟨us, ys', outs, bsr, bss', rfl, went, rfl, rfl⟩
  simp only
  obtain ⟨bs', rfl⟩ : ∃ b, bss' = [b] := by
    match bss', went.nb with
    | [b], _ => exact ⟨b, rfl⟩
  have hin1 : ∀ (b : List Nat) (q : Nat), InL [b] q ↔ q ∈ b := fun b q => by
    constructor
    · rintro ⟨i, b1, h1, h2⟩
      cases i with
      | zero => simp at h1; subst h1; exact h2
      | succ i => simp at h1
    · intro h; exact ⟨0, b, rfl, h⟩
  have hk : Kept (fun q => q ∉ bs) w w' := went.kept.mono fun q _ h h' => h ((hin1 _ _).1 h')
  have hinR : ∀ q, InL bsr q → InL (bsr ++ [bs']) q := fun q ⟨i, b, h1, h2⟩ => ⟨i, b, by rw [List.getElem?_append_left (List.getElem?_eq_some_iff.1 h1).1]; exact h1, h2⟩
  have hinS : ∀ q, q ∈ bs' → InL (bsr ++ [bs']) q := fun q h => ⟨bsr.length, bs', by simp, h⟩
  have hown' := went.own
  have hownR : Own2 bsr := ⟨fun i b h => hown'.nodup i b (by rw [List.getElem?_append_left (List.getElem?_eq_some_iff.1 h).1]; exact h), fun i j b b' hne h1 h2 => hown'.disj i j b b' hne (by rw [List.getElem?_append_left (List.getElem?_eq_some_iff.1 h1).1]; exact h1) (by rw [List.getElem?_append_left (List.getElem?_eq_some_iff.1 h2).1]; exact h2)⟩
  have hmine : ∀ q, InL (bsr ++ [bs']) q → w.heap.size ≤ q ∨ q ∈ bs := fun q h => (went.mine q h).imp id (hin1 _ _).1
  obtain ⟨e0, es, es', rfl, rfl, hle⟩ := hx1
  obtain ⟨hm2, hf2⟩ := hm.set2 (S2 := After S w w' [bs] (bsr ++ [bs'])) (x' := .own e0 es') (bs' := bs') hs hvr hbr hk (fun q h => .inl h) (fun q h => h.imp id fun ⟨h1, h2, h3⟩ => ⟨h1.imp id (hin1 _ _).1, h2, fun h => h3 (hinS q h)⟩)
    (went.rep 0 _ v bs' rfl rfl rfl) (hown'.nodup bsr.length bs' (by simp)) (fun q h => (hmine q (hinS q h)).symm) (fun e es2 h => by injection h with h1 h2; subst h1; subst h2; exact ⟨es, rfl, hle⟩) (fun b ks h => by cases h)
  have hs2 : (T.slots.set r (k, AV.own e0 es'))[r]? = some (k, .own e0 es') := by simp [hrl]
  have hcl : ∀ (i : Nat) (y : AV), ys'[i]? = some y → cloA 1 y = true := fun i y h => List.all_eq_true.1 hn y (List.mem_of_getElem? h)
  obtain ⟨vals', bss'', g1, g2, g3⟩ := unp_ok2 (ys'.map (renA r k)) us bsr _ vals _ hm2 (by simp [went.nu]) (by simp [went.nr]) (fun i u y b q1 q2 q3 => by
    rw [List.getElem?_map] at q2
    cases hq : ys'[i]? with
    | none => rw [hq] at q2; cases q2
    | some y0 =>
      rw [hq] at q2
      simp only [Option.map_some, Option.some.injEq] at q2
      subst q2
      rcases went.res i u y0 b q1 hq q3 with h | ⟨h1, h2⟩
      · exact .inl (h.ren r k)
      · exact .inr ⟨h1, renA_ok (T' := ⟨T.slots.set r (k, .own e0 es'), T.ep⟩) hs2 hvr (hm.ver r k _ hs) h2 (hcl i y0 hq)⟩) hownR (fun q hq => by
      refine ⟨fun ⟨i, b, h1, h2⟩ => ?_, fun h => ?_, ?_⟩
      · rw [getElem?_set_ _ _ _ _ (by rw [hm.nb]; exact hrl)] at h1
        obtain ⟨j, bj, h3, h4⟩ := hq
        split at h1
        · injection h1 with h1; subst h1
          refine hown'.disj j bsr.length bj bs' ?_ (by rw [List.getElem?_append_left (List.getElem?_eq_some_iff.1 h3).1]; exact h3) (by simp) q h4 h2
          have := (List.getElem?_eq_some_iff.1 h3).1; omega
        · rename_i hne
          rcases hmine q (hinR q ⟨j, bj, h3, h4⟩) with h | h
          · have := hm.blt h1 q h2; omega
          · exact hm.disj r i bs b hne hbr h1 q h h2
      · rcases h with h | ⟨_, _, h⟩
        · rcases hmine q (hinR q hq) with h' | h'
          · have := hm.lt q h; omega
          · exact hm.apart r bs hbr q h' h
        · exact h (hinR q hq)
      · rcases hmine q (hinR q hq) with h | h
        · have := hm.kept.size; exact .inr (by omega)
        · exact hm.mine r bs hbr q h)
  subst hT
  refine hK _ _ _ _ _ g1 (fun u x h => g2 u x (hf2 u x h)) ?_
  subst hx
  match us, hz : (unp (ys'.map (renA r k)) ⟨T.slots.set r (k, .own e0 es'), T.ep⟩).1, g3 with
  | [], zs, rl =>
    have : zs = [] := List.eq_nil_of_length_eq_zero rl.1.symm
    subst this
    exact ⟨#[], rfl, RL.nil⟩
  | [u], zs, rl =>
    obtain ⟨z, rfl⟩ : ∃ z, zs = [z] := by
      match zs, rl.1 with
      | [z], _ => exact ⟨z, rfl⟩
    have := rl.2 0 u z rfl rfl
    cases z with
    | tup cs => exact absurd rfl (Rep.plain (show Rep _ _ _ _ _ (.tup cs) from this) cs).2
    | _ => exact this
  | u :: u2 :: us, zs, rl =>
    obtain ⟨z1, z2, zs', rfl⟩ : ∃ z1 z2 zs', zs = z1 :: z2 :: zs' := by
      match zs, rl.1 with
      | z1 :: z2 :: zs', _ => exact ⟨z1, z2, zs', rfl⟩
    exact ⟨_, rfl, by simpa using rl⟩
end
end Go.Proofs.Ytjgbbffcjbmjmaa
namespace Go.Proofs.Ytjgbbffcjbmjmaa
open Go.RowKit
set_option linter.unusedSimpArgs false
set_option linter.unusedVariables false

/-! ### Regions that draw their order: a head that only reads, a tail in order -/
section
variable {P : Program} {ops : Array Oper} {md : Region.Mode} {D : World → Prop}
def wpAnyLQ (P : Program) (md : Region.Mode) (ops : Array Oper) (D : World → Prop) (n : Nat) (L : Array Bool → Act → Prop) : Nat → Array Bool → Act → Prop
  | 0, listed, a => L listed a
  | f + 1, listed, a =>
    Region.ready md ops listed ≠ [] ∧ ∀ i ∈ Region.ready md ops listed, i < n ∧ qOp P ops D i (wpAnyLQ P md ops D n L f (listed.setIfInBounds i true)) a
theorem wpAny_of_headQ {n g : Nat} {L : Array Bool → Act → Prop} {Q' : Exit → Act → World → Prop} (hL : ∀ listed a w, D w → L listed a → wpAny P md ops Q' g listed a w) :
    ∀ (f : Nat) (listed : Array Bool) (a : Act) (w : World), D w → wpAnyLQ P md ops D n L f listed a → wpAny P md ops Q' (f + g) listed a w
  | 0, listed, a, w, hw, h => by rw [Nat.zero_add]; exact hL _ _ _ hw h
  | f + 1, listed, a, w, hw, h => by
    rw [show f + 1 + g = (f + g) + 1 by omega]
    exact ⟨fun h0 => absurd h0 h.1, fun i hi => wpOp_of_qOp hw (fun a' w' hw' h' => wpAny_of_headQ hL f _ a' w' hw' h') (h.2 i hi).2⟩
theorem wpAnyLQ_first {n i : Nat} {oi : Oper} {v : Value} {L : Array Bool → Act → Prop} (hi : ops[i]? = some oi) (hsel : ∀ (j : Nat) (o : Oper) cs b, ops[j]? = some o → o.op ≠ .select cs b)
    (hs : Region.sinkB md ops n = true) (hc : Region.chainB md ops n = true) (hn : n < ops.size) (hin : i < n)
    (hdone : ∀ listed a, L listed a → ∀ j ∈ Region.ready md ops listed, n ≤ j) :
    ∀ (f : Nat) (listed : Array Bool) (a : Act), HeadInv md ops n listed →
      (∀ j oj, ops[j]? = some oj → j ≠ i → listed.getD j true = false → (∀ e ∈ oj.after, Region.binds md e = true → e.on ≠ i) → oi.apart ops oj = true) →
      i ∈ Region.ready md ops listed → YieldsIn P ops D oi v a →
      wpAnyLQ P md ops D n L f (listed.setIfInBounds i true) (a.put oi.dst v) → wpAnyLQ P md ops D n L (f + 1) listed a := by
  intro f
  induction f with
  | zero =>
    intro listed a inv _ hr hy H
    have hun := (mem_ready.1 hr).1
    refine ⟨fun h => (by rw [h] at hr; cases hr), fun j hj => ?_⟩
    have hjn : j < n := by
      rcases Nat.lt_or_ge j n with h | h
      · exact h
      · exact absurd hj (tail_waits hs hc hn inv _ i rfl hin hun j h)
    refine ⟨hjn, ?_⟩
    by_cases hji : j = i
    · subst hji; exact hy.qOp hi H
    · have := hdone _ _ H j (ready_mono hj hji)
      omega
  | succ f ih =>
    intro listed a inv hfree hr hy H
    have hun := (mem_ready.1 hr).1
    refine ⟨fun h => (by rw [h] at hr; cases hr), fun j hj => ?_⟩
    have hjn : j < n := by
      rcases Nat.lt_or_ge j n with h | h
      · exact h
      · exact absurd hj (tail_waits hs hc hn inv _ i rfl hin hun j h)
    refine ⟨hjn, ?_⟩
    by_cases hji : j = i
    · subst hji; exact hy.qOp hi H
    · have h1 := (H.2 j (ready_mono hj hji)).2
      obtain ⟨hjun, oj, hoj, hall⟩ := mem_ready.1 hj
      have hnot : ∀ e ∈ oj.after, Region.binds md e = true → e.on ≠ i := fun e he hb heq => by
        have h1 := hall e he hb
        rw [heq, getD_both hun] at h1
        cases h1
      have h2 := qOp_put hoj (hfree j oj hoj hji hjun hnot) (fun cs b => hsel i oi cs b hi) (fun cs b => hsel j oj cs b hoj) hy h1
      have hfree' : ∀ k ok, ops[k]? = some ok → k ≠ i → (listed.setIfInBounds j true).getD k true = false →
          (∀ e ∈ ok.after, Region.binds md e = true → e.on ≠ i) → oi.apart ops ok = true := fun k ok hk hki hun hno => by
        refine hfree k ok hk hki ?_ hno
        by_cases hjk : j = k
        · subst hjk; exact hjun
        · rw [getD_set_ne true hjk] at hun; exact hun
      refine qOp_mono (fun a' h3 => ih (listed.setIfInBounds j true) a' (inv.set hj hjn) hfree' (ready_mono hr (Ne.symm hji)) h3.1 ?_) h2
      rw [Array.setIfInBounds_comm _ _ hji]
      exact h3.2
theorem wpAnyLQ_lex {n g : Nat} {Lq : Act → Prop} (hsel : Region.noSelect ops = true) (hs : Region.sinkB md ops n = true) (hc : Region.chainB md ops n = true) (hn : n < ops.size) :
    ∀ (l : List Oper) (k : Nat) (listed : Array Bool) (a : Act), (∀ j, j < l.length → l[j]? = ops[k + j]?) → k + l.length = n → HeadInv md ops n listed →
    Region.lexHead md ops g l.length k listed = true → wpQuiet P ops D Lq l a →
    wpAnyLQ P md ops D n (fun listed' a' => Region.seqB md ops g n listed' = true ∧ Lq a') l.length listed a
  | [], k, listed, a, _, hk, _, hB, h => by
    have : k = n := by simpa using hk
    subst this
    exact ⟨by simpa [Region.lexHead] using hB, h⟩
  | o :: l, k, listed, a, hl, hk, inv, hB, h => by
    have h0 : ops[k]? = some o := by simpa using (hl 0 (by simp)).symm
    simp only [List.length_cons, Region.lexHead, Bool.and_eq_true] at hB
    obtain ⟨⟨hr, hf⟩, hB'⟩ := hB
    have hkn : k < n := by simp only [List.length_cons] at hk; omega
    have hr' : k ∈ Region.ready md ops listed := by simpa using hr
    have hst : qOp P ops D k (wpQuiet P ops D Lq l) a := by unfold qOp; simp only [h0]; exact h
    obtain ⟨v, hy, hK⟩ := yieldsIn_of_qOp h0 hst
    exact wpAnyLQ_first h0 (Region.noSelect_spec hsel) hs hc hn hkn (fun listed' a' hL => seqB_ready hL.1) l.length listed a inv (Region.free_spec h0 hf) hr' hy
      (wpAnyLQ_lex hsel hs hc hn l (k + 1) _ _ (fun j hj => by have := hl (j + 1) (by simp; omega); simpa [Nat.add_assoc, Nat.add_comm 1 j] using this) (by simp only [List.length_cons] at hk; omega) (inv.set hr' hkn) hB' hK)
theorem wp_region_quiet_tail {id : Nat} {Q : Exit → Act → World → Prop} {a : Act} {w : World} {l : List Oper} (n : Nat) (hm : P.follows .mixedOrders = true) (hB : Region.lexTailB .any l.toArray n = true) (hD : D w.drew)
    (h : wpQuiet P l.toArray D (fun a' => ∀ w', D w' → wpList P l.toArray Q (l.drop n) a' w') (l.take n) a) : (Code.region id l.toArray true).wp P Q a w := by
  simp only [Region.lexTailB, Bool.and_eq_true, decide_eq_true_eq] at hB
  obtain ⟨⟨⟨⟨hsel, hn⟩, hs⟩, hc⟩, hlex⟩ := hB
  have hn' : n < l.length := by simpa using hn
  have htl : (l.take n).length = n := by simp; omega
  have hdl : (l.drop n).length = l.toArray.size - n := by simp
  have inv0 : HeadInv .any l.toArray n (Array.replicate l.toArray.size false) :=
    ⟨by simp, fun j oj _ hl => (by rw [getD_replicate_false] at hl; cases hl), fun t _ ht => getD_in (by simpa using ht) (getD_replicate_false _ _)⟩
  have H := wpAnyLQ_lex (md := .any) (g := l.toArray.size - n) hsel hs hc hn (l.take n) 0 _ a (fun j hj => by
    have hj' : j < n := by rw [htl] at hj; exact hj
    simp [hj']) (by simpa using htl) inv0 (by rw [htl]; exact hlex) h
  refine wp_region_any hm ?_
  have := wpAny_of_headQ (Q' := Q) (g := l.toArray.size - n) (fun listed a' w' hw' hL => by
    have h2 := wpAny_of_seq (Q' := Q) (l.drop n) n listed a' w' (fun j => by simp) (by rw [hdl]; exact hL.1) (hL.2 w' hw')
    rwa [hdl] at h2) (l.take n).length (Array.replicate l.toArray.size false) a w.drew hD H
  have e : (l.take n).length + (l.toArray.size - n) = l.toArray.size := by rw [htl]; simp; omega
  rw [e] at this
  exact this
end
section
variable {C : Cx} {Q : Exit → Sta → Prop} {σ : Sta}
theorem AW.quiet_tail {i : Nat} {l : List Oper} (n : Nat) {l1 l2 : List Oper} (hm : C.P.follows .mixedOrders = true) (hB : Region.lexTailB .any l.toArray n = true) (h1 : l.take n = l1) (h2 : l.drop n = l2) (h : AQ C l.toArray (AWL C l.toArray Q l2) l1 σ) : AW C (.region i l.toArray true) Q σ := by
  subst h1
  subst h2
  intro a w ⟨hd, hn, S, vals, bss, hme, he⟩
  have hk : Kept (fun _ => True) w w.drew := (Kept.refl _ _).drew
  refine wp_region_quiet_tail (D := fun w' => Kept (fun _ => True) w w') n hm hB hk ?_
  refine wpQuiet_mono ?_ _ _ (h a w S vals bss ⟨hd, hn, hme, he⟩)
  rintro a' ⟨σ', hs, hq⟩ w' hk'
  exact hq a' w' (hs.grow hk').st
/-! ### Regions that draw their order: one operation after the other -/
theorem AW.drawn {i n : Nat} {l : List Oper} (hm : C.P.follows .mixedOrders = true) (hn : l.toArray.size = n) (h : AWAny C l.toArray Q n (Array.replicate n false) σ) : AW C (.region i l.toArray true) Q σ := by
  subst hn
  exact AW.region_any hm h
end
section
variable {C : Cx} {Q : Exit → Sta → Prop} {ops : Array Oper} {fuel : Nat} {listed : Array Bool} {o : Oper} {env : Nat → AV} {T T' : Sl} {n : Nat} {x : AV}
/-- A pure operation first. -/
theorem anP (i : Nat) (hi : ops[i]? = some o) (hj : OpP C o (evA env) T x) (hr : (Region.ready .any ops listed).contains i = true) (hf : Region.free .any ops listed i = true) (h : AWAny C ops Q fuel (listed.setIfInBounds i true) ⟨putE env o.dst x, T, n⟩)
    (hs : Region.noSelect ops = true := by rfl) (hp : ∀ c σ, ¬ Q (.panic c) σ := by exact fun _ _ h => h) (hg : o.guard = none := by rfl) (ho : opsOk o n = true := by rfl) : AWAny C ops Q (fuel + 1) listed ⟨env, T, n⟩ :=
  AWAny.take hi hs hf hr hp hg ho hj h
/-- The only operation that may come up. -/
theorem anJ (i : Nat) (hi : ops[i]? = some o) (hj : OpJ C o (evA env) T x T') (hr : Region.ready .any ops listed = [i]) (h : AWAny C ops Q fuel (listed.setIfInBounds i true) ⟨putE env o.dst x, T', n⟩) (hg : o.guard = none := by rfl) (ho : opsOk o n = true := by rfl) : AWAny C ops Q (fuel + 1) listed ⟨env, T, n⟩ :=
  AWAny.all hr (by simp) fun j hj' => by
    obtain rfl : j = i := by simpa using hj'
    exact AWOp.op hi hg ho hj h
theorem anR (i : Nat) (hi : ops[i]? = some o) (hj : OpR C o (evA env) T x) (hr : Region.ready .any ops listed = [i]) (h : AWAny C ops Q fuel (listed.setIfInBounds i true) ⟨putE env o.dst x, T, n⟩) (hg : o.guard = none := by rfl) (ho : opsOk o n = true := by rfl) : AWAny C ops Q (fuel + 1) listed ⟨env, T, n⟩ :=
  anJ i hi hj.j hr h hg ho
theorem anDone (hr : Region.ready .any ops listed = []) (h : Q .normal ⟨env, T, n⟩) : AWAny C ops Q fuel listed ⟨env, T, n⟩ := AWAny.done hr h
/-! ### Calls of a value -/
theorem op_valQ {f : FuncId} {p : Operand} {args : Array Operand} {ts : Array TypeId} {b : Bool} {ev : Operand → AV} {xs : List AV} {y : Value} (ho : o.op = .call { callee := .value p, args := args, argTypes := ts }) (hp : ev p = .v (.func (.func f) #[] #[])) (hf : Enters C.P f) (hsp : Fn C.P f [] xs [.v y] []) (hv : RL (View T b) (args.toList.map ev) xs) (hx : y.oneCell' = true) : OpQ C o ev T (.v y) := by
  intro a w S vals bss hm h
  refine ⟨y, fun w' hk => ?_, TmpOK.v_ hx⟩
  have hfv : a.eval p = .func (.func f) #[] #[] := by
    have := h p (by simp [ho, Op.operands, Call.operands])
    rw [hp] at this
    exact (show Rep C.P S w [] _ _ from this).v_inv.1
  have hargs : ∀ y ∈ args, TmpOK C.P S w' T vals (a.eval y) (ev y) := fun y hy => TmpOK.follows (Follows.kept hk (fun _ _ _ => trivial) fun _ h => h) (h y (by simp [ho, Op.operands, Call.operands]; exact .inr hy))
  have hc := hsp w' (lent b S bss) [] [] _ (came0 (hm.grow hk) hv hargs)
  have hrun : (execOp a.eval o).run C.P w' = .ok (.enter f (args.toList.map a.eval).toArray) w' := by
    have e1 : (args.map a.eval) = (args.toList.map a.eval).toArray := by apply Array.toList_inj.1; simp
    simp only [execOp, ho, resolve, hfv, Deferred.ofValue, Sem.run_bind, Sem.run_pure, Result.andThen_ok, invoke]
    rw [← e1]
    simpa using hf _ w'
  unfold Oper.quietAt
  rw [hrun]
  refine ⟨rfl, hc.mono ?_⟩
  rintro e w'' ⟨us, ys', outs, bsr, bss', rfl, went, rfl, rfl⟩
  have hk2 : Kept (fun _ => True) w' w'' := went.kept.mono fun k _ _ ⟨r, bs, h, _⟩ => by simp at h
  refine ⟨?_, hk.trans hk2⟩
  match us, went.nu with
  | [u], _ =>
    have hr := went.res 0 u (.v y) (bsr[0]'(by rw [went.nr]; simp)) rfl rfl (List.getElem?_eq_getElem _)
    rcases hr with h | ⟨_, h⟩
    · rw [retV, h.v_inv.1]
    · rw [retV, (show Rep C.P _ w'' [] u (.v y) from h).v_inv.1]
/-- A quiet operation, in a region in order. -/
theorem OpQ.j {ev : Operand → AV} (h : OpQ C o ev T x) : OpJ C o ev T x T := by
  intro a w S vals bss hm ho K hK Q
  obtain ⟨v, h1, h2⟩ := h a w S vals bss hm ho
  have := h1 w (Kept.refl _ _)
  refine Oper.wp_of_quiet (C := fun w'' => Kept (fun _ => True) w w'') (K := fun a' => a' = a.put o.dst v) (Kept.refl _ _) ?_ ⟨v, fun w' hw' => h1 w' hw', rfl⟩
  rintro a' w' hk rfl
  exact hK v w' S vals bss (hm.grow hk) (Follows.kept hk (fun _ _ _ => trivial) fun _ h => h) (TmpOK.follows (Follows.kept hk (fun _ _ _ => trivial) fun _ h => h) h2)
end
end Go.Proofs.Ytjgbbffcjbmjmaa
namespace Go.Proofs.Ytjgbbffcjbmjmaa
open Go.RowKit
set_option linter.unusedSimpArgs false
set_option linter.unusedVariables false

/-! ### Regions that draw their order: what only reads comes first -/
theorem OpJ.congr {C : Cx} {o : Oper} {ev ev' : Operand → AV} {T T' : Sl} {x : AV} (h : OpJ C o ev T x T') (he : ∀ y ∈ o.op.operands, ev' y = ev y) : OpJ C o ev' T x T' :=
  fun a w S vals bss hm ho => h a w S vals bss hm fun y hy => by rw [← he y hy]; exact ho y hy
theorem evA_put {env : Nat → AV} {dst : Option Tmp} {x : AV} {o : Oper} {ops : Array Oper} (h : ∀ d, dst = some d → d ∉ o.looksAt ops) : ∀ y ∈ o.op.operands, evA (putE env dst x) y = evA env y := fun y hy => by
  cases y with
  | tmp t =>
    cases dst with
    | none => rfl
    | some d =>
      show upd env d x t = env t
      unfold upd
      rw [if_neg]
      intro e
      subst e
      exact h _ rfl (List.mem_append_left _ (List.mem_filterMap.2 ⟨.tmp t, by simpa using hy, rfl⟩))
  | _ => rfl
theorem putE_comm {env : Nat → AV} {d d' : Option Tmp} {x y : AV} (h : ∀ t, d = some t → d' ≠ some t) : putE (putE env d x) d' y = putE (putE env d' y) d x := by
  cases d with
  | none => rfl
  | some t =>
    cases d' with
    | none => rfl
    | some t' =>
      have hne : t ≠ t' := fun e => h t rfl (by rw [e])
      funext q
      show upd (upd env t x) t' y q = upd (upd env t' y) t x q
      unfold upd
      by_cases h1 : q = t'
      · rw [if_pos h1, if_neg (fun e => hne (e.symm.trans h1)), if_pos h1]
      · rw [if_neg h1, if_neg h1]
section
variable {C : Cx} {ops : Array Oper} {Q : Exit → Sta → Prop} {Ok : Sl → Prop}
/-- An operation that waits for all others. -/
def lastB (ops : Array Oper) (o : Oper) (i : Nat) : Bool := (List.range ops.size).all fun q => q == i || o.after.any fun e => Region.binds .any e && e.on == q
theorem lastB_on {o : Oper} {i q : Nat} (h : lastB ops o i = true) (hq : q < ops.size) (hne : q ≠ i) : ∃ e ∈ o.after, Region.binds .any e = true ∧ e.on = q := by
  unfold lastB at h
  have := List.all_eq_true.1 h q (List.mem_range.2 hq)
  simp only [Bool.or_eq_true, beq_iff_eq, Array.any_eq_true', Bool.and_eq_true] at this
  rcases this with h | ⟨e, he, h1, h2⟩
  · exact absurd h hne
  · exact ⟨e, he, h1, h2⟩
def AD (C : Cx) (ops : Array Oper) (Q : Exit → Sta → Prop) (Ok : Sl → Prop) : Nat → Array Bool → Sta → Prop
  | 0, listed, σ => Region.ready .any ops listed = [] ∧ Q .normal σ
  | f + 1, listed, σ => (Region.ready .any ops listed = [] → Q .normal σ) ∧ ∀ i ∈ Region.ready .any ops listed, ∃ o x T', ops[i]? = some o ∧ o.guard = none ∧ opsOk o σ.n = true ∧ OpJ C o (evA σ.env) σ.T x T' ∧ (Ok T' ∨ lastB ops o i = true) ∧ AD C ops Q Ok f (listed.setIfInBounds i true) ⟨putE σ.env o.dst x, T', σ.n⟩
theorem AD.any : ∀ (f : Nat) (listed : Array Bool) (σ : Sta), AD C ops Q Ok f listed σ → AWAny C ops Q f listed σ
  | 0, _, _, h => AWAny.done h.1 h.2
  | f + 1, listed, σ, h => by
    by_cases hr : Region.ready .any ops listed = []
    · exact AWAny.done hr (h.1 hr)
    · refine AWAny.all rfl hr fun i hi => ?_
      obtain ⟨o, x, T', h1, h2, h3, h4, _, h6⟩ := h.2 i hi
      exact AWOp.op h1 h2 h3 h4 (AD.any f _ _ h6)
theorem AD.first {i : Nat} {oi : Oper} {x : AV} {n : Nat} {ev0 : Operand → AV} (hi : ops[i]? = some oi) (hg : oi.guard = none) (hok : opsOk oi n = true) (hj : ∀ T', Ok T' → OpJ C oi ev0 T' x T') :
    ∀ (f : Nat) (listed : Array Bool) (env : Nat → AV) (T : Sl),
      (∀ j oj, ops[j]? = some oj → j ≠ i → listed.getD j true = false → (∀ e ∈ oj.after, Region.binds .any e = true → e.on ≠ i) → oi.apart ops oj = true) →
      i ∈ Region.ready .any ops listed → (∀ y ∈ oi.op.operands, evA env y = ev0 y) → Ok T →
      AD C ops Q Ok f (listed.setIfInBounds i true) ⟨putE env oi.dst x, T, n⟩ → AD C ops Q Ok (f + 1) listed ⟨env, T, n⟩ := by
  intro f
  induction f with
  | zero =>
    intro listed env T _ hr hev hT H
    refine ⟨fun h => (by rw [h] at hr; cases hr), fun j hjr => ?_⟩
    by_cases hji : j = i
    · subst hji; exact ⟨oi, x, T, hi, hg, hok, (hj T hT).congr hev, .inl hT, H⟩
    · have := ready_mono hjr hji
      rw [H.1] at this
      cases this
  | succ f ih =>
    intro listed env T hfree hr hev hT H
    have hun := (mem_ready.1 hr).1
    refine ⟨fun h => (by rw [h] at hr; cases hr), fun j hjr => ?_⟩
    by_cases hji : j = i
    · subst hji; exact ⟨oi, x, T, hi, hg, hok, (hj T hT).congr hev, .inl hT, H⟩
    · obtain ⟨oj, y, T', h1, h2, h3, h4, h5, h6⟩ := H.2 j (ready_mono hjr hji)
      obtain ⟨hjun, oj', hoj, hall⟩ := mem_ready.1 hjr
      have : oj' = oj := Option.some.inj (hoj.symm.trans h1)
      subst this
      have hnot : ∀ e ∈ oj'.after, Region.binds .any e = true → e.on ≠ i := fun e he hb heq => by
        have h1 := hall e he hb
        rw [heq, getD_both hun] at h1
        cases h1
      replace h5 : Ok T' := by
        rcases h5 with h5 | h5
        · exact h5
        · obtain ⟨e, he, hb, heq⟩ := lastB_on h5 (Array.getElem?_eq_some_iff.1 hi).1 (Ne.symm hji)
          exact absurd heq (hnot e he hb)
      obtain ⟨a1, a2, a3⟩ := Oper.apart_spec (hfree j oj' hoj hji hjun hnot)
      have hfree' : ∀ k ok, ops[k]? = some ok → k ≠ i → (listed.setIfInBounds j true).getD k true = false → (∀ e ∈ ok.after, Region.binds .any e = true → e.on ≠ i) → oi.apart ops ok = true := fun k ok hk hki hun hno => by
        refine hfree k ok hk hki ?_ hno
        by_cases hjk : j = k
        · subst hjk; exact hjun
        · rw [getD_set_ne true hjk] at hun; exact hun
      refine ⟨oj', y, T', h1, h2, h3, h4.congr fun q hq => (evA_put a1 q hq).symm, .inl h5, ?_⟩
      refine ih _ _ _ hfree' (ready_mono hr (Ne.symm hji)) (fun q hq => (evA_put a3 q hq).trans (hev q hq)) h5 ?_
      rw [Array.setIfInBounds_comm _ _ hji]
      rw [putE_comm (fun t ht ht' => a2 t ht ht')] at h6
      exact h6
/-- Slots that stay as they are. -/
def FixL : List (Nat × Nat × AV) → Sl → Prop
  | [], _ => True
  | p :: l, T => T.slots[p.1]? = some p.2 ∧ FixL l T
theorem AW.ad {σ : Sta} {i n : Nat} {l : List Oper} (fx : List (Nat × Nat × AV)) (hm : C.P.follows .mixedOrders = true) (hn : l.toArray.size = n) (h : AD C l.toArray Q (FixL fx) n (Array.replicate n false) σ) : AW C (.region i l.toArray true) Q σ := by
  subst hn
  exact AW.region_any hm (AD.any _ _ _ h)
end
section
variable {C : Cx} {Q : Exit → Sta → Prop} {ops : Array Oper} {fx : List (Nat × Nat × AV)} {fuel : Nat} {listed : Array Bool} {o : Oper} {env : Nat → AV} {T T' : Sl} {n : Nat} {x : AV}
theorem atL {ops : Array Oper} {i : Nat} {o : Oper} (h : ops.toList[i]? = some o) : ops[i]? = some o := by rw [← Array.getElem?_toList]; exact h
theorem adF (i : Nat) (hi : ops.toList[i]? = some o) (hj : ∀ T', FixL fx T' → OpJ C o (evA env) T' x T') (hT : FixL fx T) (hr : (Region.ready .any ops listed).contains i = true) (hf : Region.free .any ops listed i = true) (h : AD C ops Q (FixL fx) fuel (listed.setIfInBounds i true) ⟨putE env o.dst x, T, n⟩)
    (hg : o.guard = none := by rfl) (ho : opsOk o n = true := by rfl) : AD C ops Q (FixL fx) (fuel + 1) listed ⟨env, T, n⟩ :=
  AD.first (atL hi) hg ho hj fuel listed env T (Region.free_spec (atL hi) hf) (by simpa using hr) (fun _ _ => rfl) hT h
theorem adP (i : Nat) (hi : ops.toList[i]? = some o) (hj : ∀ T', FixL fx T' → OpP C o (evA env) T' x) (hT : FixL fx T) (hr : (Region.ready .any ops listed).contains i = true) (hf : Region.free .any ops listed i = true) (h : AD C ops Q (FixL fx) fuel (listed.setIfInBounds i true) ⟨putE env o.dst x, T, n⟩)
    (hg : o.guard = none := by rfl) (ho : opsOk o n = true := by rfl) : AD C ops Q (FixL fx) (fuel + 1) listed ⟨env, T, n⟩ := adF i hi (fun T' h => (hj T' h).j) hT hr hf h hg ho
theorem adR (i : Nat) (hi : ops.toList[i]? = some o) (hj : ∀ T', FixL fx T' → OpR C o (evA env) T' x) (hT : FixL fx T) (hr : (Region.ready .any ops listed).contains i = true) (hf : Region.free .any ops listed i = true) (h : AD C ops Q (FixL fx) fuel (listed.setIfInBounds i true) ⟨putE env o.dst x, T, n⟩)
    (hg : o.guard = none := by rfl) (ho : opsOk o n = true := by rfl) : AD C ops Q (FixL fx) (fuel + 1) listed ⟨env, T, n⟩ := adF i hi (fun T' h => (hj T' h).j) hT hr hf h hg ho
theorem adQ (i : Nat) (hi : ops.toList[i]? = some o) (hj : ∀ T', FixL fx T' → OpQ C o (evA env) T' x) (hT : FixL fx T) (hr : (Region.ready .any ops listed).contains i = true) (hf : Region.free .any ops listed i = true) (h : AD C ops Q (FixL fx) fuel (listed.setIfInBounds i true) ⟨putE env o.dst x, T, n⟩)
    (hg : o.guard = none := by rfl) (ho : opsOk o n = true := by rfl) : AD C ops Q (FixL fx) (fuel + 1) listed ⟨env, T, n⟩ := adF i hi (fun T' h => (hj T' h).j) hT hr hf h hg ho
/-- The only operation that may come up. -/
theorem adJ (i : Nat) (hi : ops.toList[i]? = some o) (hj : OpJ C o (evA env) T x T') (hr : Region.ready .any ops listed = [i]) (hT : FixL fx T') (h : AD C ops Q (FixL fx) fuel (listed.setIfInBounds i true) ⟨putE env o.dst x, T', n⟩) (hg : o.guard = none := by rfl) (ho : opsOk o n = true := by rfl) : AD C ops Q (FixL fx) (fuel + 1) listed ⟨env, T, n⟩ :=
  ⟨fun h0 => (by rw [hr] at h0; cases h0), fun j hj' => by
    rw [hr] at hj'
    obtain rfl : j = i := by simpa using hj'
    exact ⟨o, x, T', atL hi, hg, ho, hj, .inl hT, h⟩⟩
theorem adDone (hr : Region.ready .any ops listed = []) (h : Q .normal ⟨env, T, n⟩) : AD C ops Q (FixL fx) fuel listed ⟨env, T, n⟩ := by
  cases fuel with
  | zero => exact ⟨hr, h⟩
  | succ f => exact ⟨fun _ => h, fun i hi => by rw [hr] at hi; cases hi⟩
end
end Go.Proofs.Ytjgbbffcjbmjmaa
