import Derived.Test.YtfmnaigedgmhoaaGreatDoorXba
import Derived.IntWalk
import Derived.StillTail
import Derived.Shelf.GgSortMore.Stable
namespace Go.Proofs.YtfmnaigedgmhoaaGreatDoor
open Go.RowKit
set_option linter.unusedSimpArgs false
set_option linter.unusedVariables false
section
variable {C : Cx} {Q : Exit → Sta → Prop} {K : Sta → Prop} {ops : Array Oper} {o : Oper} {l : List Oper} {env : Nat → AV} {T T' : Sl} {n : Nat} {x : AV}
theorem awP (hj : OpP C o (evA env) T x) (h : AWL C ops Q l ⟨putE env o.dst x, T, n⟩) (hg : o.guard = none := by rfl) (ho : opsOk o n = true := by rfl) : AWL C ops Q (o :: l) ⟨env, T, n⟩ := AWL.op hg ho (OpP.j hj) h
theorem awR (hj : OpR C o (evA env) T x) (h : AWL C ops Q l ⟨putE env o.dst x, T, n⟩) (hg : o.guard = none := by rfl) (ho : opsOk o n = true := by rfl) : AWL C ops Q (o :: l) ⟨env, T, n⟩ := AWL.op hg ho (OpR.j hj) h
theorem awJ (hj : OpJ C o (evA env) T x T') (h : AWL C ops Q l ⟨putE env o.dst x, T', n⟩) (hg : o.guard = none := by rfl) (ho : opsOk o n = true := by rfl) : AWL C ops Q (o :: l) ⟨env, T, n⟩ := AWL.op hg ho hj h
theorem aqP (hj : OpP C o (evA env) T x) (h : AQ C ops K l ⟨putE env o.dst x, T, n⟩) (hg : o.guard = none := by rfl) (ho : opsOk o n = true := by rfl) : AQ C ops K (o :: l) ⟨env, T, n⟩ := AQ.op hg ho (OpP.q hj) h
theorem aqR (hj : OpR C o (evA env) T x) (h : AQ C ops K l ⟨putE env o.dst x, T, n⟩) (hg : o.guard = none := by rfl) (ho : opsOk o n = true := by rfl) : AQ C ops K (o :: l) ⟨env, T, n⟩ := AQ.op hg ho (OpR.q hj) h
theorem aqQ (hj : OpQ C o (evA env) T x) (h : AQ C ops K l ⟨putE env o.dst x, T, n⟩) (hg : o.guard = none := by rfl) (ho : opsOk o n = true := by rfl) : AQ C ops K (o :: l) ⟨env, T, n⟩ := AQ.op hg ho hj h
def era (W : List Nat) (env : Nat → AV) : Nat → AV := fun t => if W.contains t then .any else env t
theorem wpQuiet_append {P : Program} {ops : Array Oper} {D : World → Prop} {Q : Act → Prop} : ∀ (l1 l2 : List Oper) (a : Act), wpQuiet P ops D (fun a' => wpQuiet P ops D Q l2 a') l1 a → wpQuiet P ops D Q (l1 ++ l2) a
  | [], l2, a, h => h
  | o :: l1, l2, a, h => by
    rw [List.cons_append]
    unfold wpQuiet at h ⊢
    split
    · rename_i hw
      rw [if_pos hw] at h
      exact Oper.quiet_mono (fun a => wpQuiet_append l1 l2 a) h
    rename_i hw
    rw [if_neg hw] at h
    exact wpQuiet_append l1 l2 _ h
theorem wpQuiet_mono {P : Program} {ops : Array Oper} {D : World → Prop} {Q Q' : Act → Prop} (hq : ∀ a, Q a → Q' a) : ∀ (l : List Oper) (a : Act), wpQuiet P ops D Q l a → wpQuiet P ops D Q' l a
  | [], a, h => hq a h
  | o :: l, a, h => by
    unfold wpQuiet at h ⊢
    split
    · rename_i hw; rw [if_pos hw] at h; exact Oper.quiet_mono (fun a => wpQuiet_mono hq l a) h
    rename_i hw; rw [if_neg hw] at h; exact wpQuiet_mono hq l _ h
theorem wpQuiet_skip {P : Program} {ops : Array Oper} {D : World → Prop} {Q : Act → Prop} {g d : Nat} {o' : Oper} {b : Bool} (ho' : ops[g]? = some o') (hd : o'.dst = some d) : ∀ (seg : List Oper) (a : Act), d < a.tmps.size → a.eval (.tmp d) = .bool b → (∀ o ∈ seg, o.guard = some (g, !b) ∧ o.dst ≠ some d) →
    (∀ a', a'.defers = a.defers → a'.tmps.size = a.tmps.size → (∀ t, (∀ o ∈ seg, o.dst ≠ some t) → a'.tmps.getD t undef = a.tmps.getD t undef) → Q a') → wpQuiet P ops D Q seg a
  | [], a, _, _, _, h => h a rfl rfl fun _ _ => rfl
  | o :: seg, a, hlt, hb, hs, h => by
    obtain ⟨hg, hne⟩ := hs o (by simp)
    have hw : ¬ Region.wanted o (yielded ops a.tmps) = true := by
      simp [Act.eval, hlt] at hb
      simp [Region.wanted, hg, yielded, ho', hd, hlt, hb]
    unfold wpQuiet
    rw [if_neg hw]
    have hsame : (a.put o.dst undef).tmps.getD d undef = a.tmps.getD d undef := by
      rw [Act.getD_put, if_neg]; intro h; exact hne h.1
    refine wpQuiet_skip ho' hd seg _ (by rw [Act.size_put]; exact hlt) (by show (a.put o.dst undef).tmps.getD d undef = _; rw [hsame]; exact hb) (fun o h => hs o (by simp [h])) fun a' h1 h2 h3 => h a' (by rw [h1, Act.defers_put]) (by rw [h2, Act.size_put]) fun t ht => ?_
    rw [h3 t fun o h => ht o (by simp [h]), Act.getD_put, if_neg]
    intro hh; exact ht o (by simp) hh.1
/-- What a guarded segment must come to. -/
def segK (σ : Sta) (W : List Nat) (d : Nat) (b2 : Bool) : Sta → Prop := fun σ' => σ'.T = σ.T ∧ σ'.n = σ.n ∧ σ'.env d = .v (.bool b2) ∧ ∀ t, W.contains t = false → σ'.env t = σ.env t
theorem StI.era {σ : Sta} {a : Act} {w : World} {S : Nat → Prop} {vals : List Value} {bss : List (List Nat)} (h : StI C σ a w S vals bss) {σ' : Sta} (hT : σ.T = σ'.T) (hn : σ.n = σ'.n) (W : List Nat) (hW : ∀ t, W.contains t = false → σ.env t = σ'.env t) : StI C ⟨era W σ'.env, σ'.T, σ'.n⟩ a w S vals bss := by
  obtain ⟨h1, h2, h3, h4⟩ := h
  rw [hn] at h2 h4
  rw [hT] at h3 h4
  refine ⟨h1, h2, h3, fun t ht => ?_⟩
  show TmpOK _ _ _ _ _ _ (Go.Proofs.YtfmnaigedgmhoaaGreatDoor.era W σ'.env t)
  unfold Go.Proofs.YtfmnaigedgmhoaaGreatDoor.era
  cases hc : W.contains t
  · rw [if_neg (by simp), ← hW t hc]; exact h4 t ht
  rw [if_pos rfl]; exact TmpOK.any_
/-- a && b: seg reckons b. -/
theorem aqAnd {σ : Sta} (seg rest : List Oper) (p : Oper) (W : List Nat) {g c d pd : Nat} {b : Bool} {b2 : Bool} {o' : Oper} (hl : l = seg ++ p :: rest) (ho' : ops[g]? = some o') (hd : o'.dst = some c) (hc : c < σ.n) (hv : σ.env c = .v (.bool b)) (hs : seg.all (fun o => (o.guard == some (g, true)) && (match o.dst with | some t => W.contains t && t != c | none => true)) = true) (hp : p.op = .pick (.tmp c) (.tmp d) (.const (.bool false))) (hpg : p.guard = none) (hpd : p.dst = some pd) (hdn : d < σ.n) (hcW : W.contains c = false)
    (h1 : b = true → AQ C ops (segK σ W d b2) seg σ) (h2 : AQ C ops K rest ⟨upd (era W σ.env) pd (.v (.bool (b && b2))), σ.T, σ.n⟩) : AQ C ops K l σ := by
  subst hl
  intro a w S vals bss hst
  refine wpQuiet_append _ _ _ ?_
  have hseg : ∀ o ∈ seg, o.guard = some (g, true) ∧ (∀ t, o.dst = some t → W.contains t = true ∧ t ≠ c) := fun o ho => by
    have := List.all_eq_true.1 hs o ho
    simp only [Bool.and_eq_true, beq_iff_eq] at this
    refine ⟨this.1, fun t ht => ?_⟩
    rw [ht] at this
    simpa using this.2
  have hcv := hst.st.bool (c := .tmp c) (t := b) (by simpa [noneBig] using hc) rfl hv
  have fin : ∀ (a' : Act) (σ' : Sta), StI C σ' a' w S vals bss → σ'.T = σ.T → σ'.n = σ.n → (∀ t, W.contains t = false → σ'.env t = σ.env t) → (b = true → a'.eval (.tmp d) = .bool b2) → wpQuiet C.P ops (fun w' => Kept (fun _ => True) w w') (fun a' => ∃ σ', StI C σ' a' w S vals bss ∧ K σ') (p :: rest) a' := by
    intro a' σ' hs' hT hn hW hd'
    have hcv' := hs'.st.bool (c := .tmp c) (t := b) (by simp [noneBig, hn, hc]) rfl (show evA σ'.env (.tmp c) = _ by show σ'.env c = _; rw [hW c hcW]; exact hv)
    unfold wpQuiet
    rw [if_pos (by simp [Region.wanted, hpg])]
    refine ⟨.bool (b && b2), fun w' _ => ?_, ?_⟩
    · unfold Oper.quietAt
      have : (execOp a'.eval p).run C.P w' = .ok (.value (.bool (b && b2))) w' := by
        simp only [execOp, hp, hcv', asBool, Sem.run_bind, Sem.run_pure, Result.andThen_ok]
        cases b
        · rfl
        rw [hd' rfl]; rfl
      rw [this]
      exact ⟨rfl, rfl⟩
    have h3 := (hs'.era (σ' := σ) hT hn W hW).put (d := p.dst) (v := .bool (b && b2)) (x := .v (.bool (b && b2))) (TmpOK.v_ rfl)
    rw [hpd] at h3 ⊢
    exact h2 _ _ _ _ _ h3
  cases b with
  | true =>
    refine wpQuiet_mono ?_ _ _ (h1 rfl a w S vals bss hst)
    rintro a' ⟨σ', hs', e1, e2, e3, e4⟩
    refine fin a' σ' hs' e1 e2 e4 fun _ => ?_
    exact hs'.st.bool (c := .tmp d) (by simp [noneBig, e2, hdn]) rfl e3
  | false =>
    refine wpQuiet_skip (b := false) ho' hd seg a (by rw [hst.2.1]; exact hc) hcv (fun o ho => ⟨(hseg o ho).1, fun h => ((hseg o ho).2 c h).2 rfl⟩) fun a' q1 q2 q3 => ?_
    have hst' : StI C ⟨era W σ.env, σ.T, σ.n⟩ a' w S vals bss := by
      refine ⟨by rw [q1]; exact hst.1, by rw [q2]; exact hst.2.1, hst.2.2.1, fun t ht => ?_⟩
      show TmpOK _ _ _ _ _ _ (era W σ.env t)
      unfold era
      cases hcc : W.contains t
      · rw [if_neg (by simp), q3 t fun o ho h => by have := ((hseg o ho).2 t h).1; rw [hcc] at this; cases this]
        exact hst.2.2.2 t ht
      rw [if_pos rfl]; exact TmpOK.any_
    refine fin a' _ hst' rfl rfl (fun t ht => ?_) (fun h => by cases h)
    show era W σ.env t = σ.env t
    unfold era
    rw [if_neg (by rw [ht]; simp)]
/-- a || b -/
theorem aqOr {σ : Sta} (seg rest : List Oper) (p : Oper) (W : List Nat) {g c d pd : Nat} {b : Bool} {b2 : Bool} {o' : Oper} (hl : l = seg ++ p :: rest) (ho' : ops[g]? = some o') (hd : o'.dst = some c) (hc : c < σ.n) (hv : σ.env c = .v (.bool b)) (hs : seg.all (fun o => (o.guard == some (g, false)) && (match o.dst with | some t => W.contains t && t != c | none => true)) = true) (hp : p.op = .pick (.tmp c) (.const (.bool true)) (.tmp d)) (hpg : p.guard = none) (hpd : p.dst = some pd) (hdn : d < σ.n) (hcW : W.contains c = false)
    (h1 : b = false → AQ C ops (segK σ W d b2) seg σ) (h2 : AQ C ops K rest ⟨upd (era W σ.env) pd (.v (.bool (b || b2))), σ.T, σ.n⟩) : AQ C ops K l σ := by
  subst hl
  intro a w S vals bss hst
  refine wpQuiet_append _ _ _ ?_
  have hseg : ∀ o ∈ seg, o.guard = some (g, false) ∧ (∀ t, o.dst = some t → W.contains t = true ∧ t ≠ c) := fun o ho => by
    have := List.all_eq_true.1 hs o ho
    simp only [Bool.and_eq_true, beq_iff_eq] at this
    refine ⟨this.1, fun t ht => ?_⟩
    rw [ht] at this
    simpa using this.2
  have hcv := hst.st.bool (c := .tmp c) (t := b) (by simpa [noneBig] using hc) rfl hv
  have fin : ∀ (a' : Act) (σ' : Sta), StI C σ' a' w S vals bss → σ'.T = σ.T → σ'.n = σ.n → (∀ t, W.contains t = false → σ'.env t = σ.env t) → (b = false → a'.eval (.tmp d) = .bool b2) → wpQuiet C.P ops (fun w' => Kept (fun _ => True) w w') (fun a' => ∃ σ', StI C σ' a' w S vals bss ∧ K σ') (p :: rest) a' := by
    intro a' σ' hs' hT hn hW hd'
    have hcv' := hs'.st.bool (c := .tmp c) (t := b) (by simp [noneBig, hn, hc]) rfl (show evA σ'.env (.tmp c) = _ by show σ'.env c = _; rw [hW c hcW]; exact hv)
    unfold wpQuiet
    rw [if_pos (by simp [Region.wanted, hpg])]
    refine ⟨.bool (b || b2), fun w' _ => ?_, ?_⟩
    · unfold Oper.quietAt
      have : (execOp a'.eval p).run C.P w' = .ok (.value (.bool (b || b2))) w' := by
        simp only [execOp, hp, hcv', asBool, Sem.run_bind, Sem.run_pure, Result.andThen_ok]
        cases b
        · rw [hd' rfl]; rfl
        rfl
      rw [this]
      exact ⟨rfl, rfl⟩
    have h3 := (hs'.era (σ' := σ) hT hn W hW).put (d := p.dst) (v := .bool (b || b2)) (x := .v (.bool (b || b2))) (TmpOK.v_ rfl)
    rw [hpd] at h3 ⊢
    exact h2 _ _ _ _ _ h3
  cases b with
  | false =>
    refine wpQuiet_mono ?_ _ _ (h1 rfl a w S vals bss hst)
    rintro a' ⟨σ', hs', e1, e2, e3, e4⟩
    refine fin a' σ' hs' e1 e2 e4 fun _ => ?_
    exact hs'.st.bool (c := .tmp d) (by simp [noneBig, e2, hdn]) rfl e3
  | true =>
    refine wpQuiet_skip (b := true) ho' hd seg a (by rw [hst.2.1]; exact hc) hcv (fun o ho => ⟨(hseg o ho).1, fun h => ((hseg o ho).2 c h).2 rfl⟩) fun a' q1 q2 q3 => ?_
    have hst' : StI C ⟨era W σ.env, σ.T, σ.n⟩ a' w S vals bss := by
      refine ⟨by rw [q1]; exact hst.1, by rw [q2]; exact hst.2.1, hst.2.2.1, fun t ht => ?_⟩
      show TmpOK _ _ _ _ _ _ (era W σ.env t)
      unfold era
      cases hcc : W.contains t
      · rw [if_neg (by simp), q3 t fun o ho h => by have := ((hseg o ho).2 t h).1; rw [hcc] at this; cases this]
        exact hst.2.2.2 t ht
      rw [if_pos rfl]; exact TmpOK.any_
    refine fin a' _ hst' rfl rfl (fun t ht => ?_) (fun h => by cases h)
    show era W σ.env t = σ.env t
    unfold era
    rw [if_neg (by rw [ht]; simp)]
/-- A region in the order of the text that only reads. -/
theorem wpList_of_quiet {P : Program} {Q' : Exit → Act → World → Prop} {D : World → Prop} : ∀ (l : List Oper) (a : Act) (w : World), D w → wpQuiet P ops D (fun a' => ∀ w', D w' → Q' .normal a' w') l a → wpList P ops Q' l a w
  | [], a, w, hw, h => h w hw
  | o :: l, a, w, hw, h => by
    refine wpList_step fun K' hK => ?_
    unfold wpQuiet at h
    split
    · rename_i hwn
      rw [if_pos hwn] at h
      exact Oper.wp_of_quiet hw (fun a' w' hw' hk => hK _ _ (wpList_of_quiet l a' w' hw' hk)) h
    rename_i hwn
    rw [if_neg hwn] at h
    exact hK _ _ (wpList_of_quiet l _ w hw h)
theorem AWL.quiet {σ : Sta} (h : AQ C ops (Q .normal) l σ) : AWL C ops Q l σ := by
  intro a w ⟨hd, hn, S, vals, bss, hme, he⟩
  refine wpList_of_quiet (D := fun w' => Kept (fun _ => True) w w') l a w (Kept.refl _ _) ?_
  refine wpQuiet_mono ?_ _ _ (h a w S vals bss ⟨hd, hn, hme, he⟩)
  rintro a' ⟨σ', hs, hq⟩ w' hk'
  obtain ⟨h1, h2, h3, h4⟩ := hs.grow hk'
  exact ⟨σ', ⟨h1, h2, S, vals, bss, h3, h4⟩, hq⟩
end
end Go.Proofs.YtfmnaigedgmhoaaGreatDoor
namespace Go.Proofs.YtfmnaigedgmhoaaGreatDoor
open Go.RowKit
set_option linter.unusedSimpArgs false
set_option linter.unusedVariables false
section
variable {P : Program} {fn : Func} {σ : Sta} {e : Exit}
/-- The end of a body without slots that came in: its results, one behind the other. -/
inductive Rets (P : Program) (σ : Sta) : List ResultVar → List Nat → List AV → Prop
  | nil : Rets P σ [] [] []
  | tmp {t rs us y ys} (ht : t < σ.n) (hy : σ.env t = y) (hc : nrefA y = true) (h : Rets P σ rs us ys) : Rets P σ (.tmp t :: rs) us (y :: ys)
  | own {t rs us ys r k ty es len} (ht : t < σ.n) (hy : σ.env t = .sl r k 0 len) (hT : σ.T.slots[r]? = some (k, .own ty es)) (hl : len = es.length) (hu : r ∉ us) (h : Rets P σ rs us ys) : Rets P σ (.tmp t :: rs) (r :: us) (.own ty es :: ys)
  | cell {t ty rs us ys r k i j et es row n cs} (ht : t < σ.n) (hy : σ.env t = .ptr r k i j) (hT : σ.T.slots[r]? = some (k, .own et es)) (hrow : es[i]? = some row) (ha : aggB P ty = some true) (hs : sizeIs P ty n) (hn : j + n ≤ row.length) (hc : ((row.drop j).take n).map ldc = cs) (hr : cs.all nref1 = true) (h : Rets P σ rs us ys) : Rets P σ (.cell t ty :: rs) us (.agg cs :: ys)
  | cell1 {t ty rs us ys r k i j et es row y} (ht : t < σ.n) (hy : σ.env t = .ptr r k i j) (hT : σ.T.slots[r]? = some (k, .own et es)) (hrow : es[i]? = some row) (ha : aggB P ty = some false) {x : AV} (hx : row[j]? = some x) (hc : ldc x = y) (hr : nrefA y = true) (h : Rets P σ rs us ys) : Rets P σ (.cell t ty :: rs) us (y :: ys)
theorem clo_of_nref {n : Nat} {y : AV} (h : nrefA y = true) : cloA n y = true := by
  have one : ∀ x, nref1 x = true → clo1 n x = true := fun x h => by cases x <;> first | rfl | cases h
  cases y with
  | agg cs =>
    simp only [nrefA, cloA, List.all_eq_true] at h ⊢
    exact fun x hx => one x (h x hx)
  | _ => simp only [nrefA, cloA] at h ⊢; exact one _ h
theorem Rets.out {n0 : Nat} : ∀ {rs : List ResultVar} {us : List Nat} {ys : List AV}, Rets P σ rs us ys → (∀ r ∈ us, n0 ≤ r) → ∃ zs, RL (ResIs P σ) rs zs ∧ Gives σ.T n0 us zs ys
  | _, _, _, .nil, _ => ⟨[], RL.nil, .nil⟩
  | _, _, _, .tmp ht hy hc h, hu => by
    obtain ⟨zs, h1, h2⟩ := h.out hu
    exact ⟨_, RL.cons ⟨ht, hy⟩ h1, .keep (clo_of_nref hc) h2⟩
  | _, _, _, .own ht hy hT hl hn h, hu => by
    obtain ⟨zs, h1, h2⟩ := h.out fun r hr => hu r (by simp [hr])
    exact ⟨_, RL.cons ⟨ht, hy⟩ h1, .own hT hl (hu _ (by simp)) hn h2⟩
  | _, _, _, .cell ht hy hT hrow ha hs hn hc hr h, hu => by
    obtain ⟨zs, h1, h2⟩ := h.out hu
    exact ⟨_, RL.cons ⟨ht, _, _, _, _, _, _, _, hy, hT, hrow, .inl ⟨ha, _, hs, hn, by exact hc, _, rfl⟩⟩ h1, .keep (clo_of_nref hr) h2⟩
  | _, _, _, .cell1 ht hy hT hrow ha hx hc hr h, hu => by
    obtain ⟨zs, h1, h2⟩ := h.out hu
    exact ⟨_, RL.cons ⟨ht, _, _, _, _, _, _, _, hy, hT, hrow, .inr ⟨ha, _, hx, hc⟩⟩ h1, .keep (clo_of_nref hr) h2⟩
theorem RQ.of {n0 : Nat} {rs : List ResultVar} {us : List Nat} {ys outs : List AV} (he : e = .ret ∨ e = .normal) (hr : fn.results.toList = rs) (h : Rets P σ rs us ys) (hu : ∀ r ∈ us, n0 ≤ r) (hl : outs.length = n0) (ho : ∀ (r : Nat) (x : AV), outs[r]? = some x → σ.T.slots[r]? = some (0, x)) : RQ P fn n0 (fun a b => a = ys ∧ b = outs) e σ := by
  obtain ⟨zs, h1, h2⟩ := h.out hu
  rcases he with rfl | rfl <;> exact ⟨zs, ys, us, outs, by rw [hr]; exact h1, h2, hl, ho, rfl, rfl⟩
theorem RQ.of0 {rs : List ResultVar} {us : List Nat} {ys : List AV} (hr : fn.results.toList = rs) (h : Rets P σ rs us ys) (he : e = .ret ∨ e = .normal := by first | exact .inl rfl | exact .inr rfl) : RQ P fn 0 (fun a b => a = ys ∧ b = []) e σ :=
  RQ.of he hr h (fun _ _ => Nat.zero_le _) rfl (by simp)
end
/-- A state that is known at some places. -/
def updL (env : Nat → AV) : List (Nat × AV) → (Nat → AV)
  | [] => env
  | (t, x) :: l => upd (updL env l) t x
def AllEq (env : Nat → AV) : List (Nat × AV) → Prop
  | [] => True
  | (t, x) :: l => env t = x ∧ AllEq env l
theorem updL_self {env : Nat → AV} : ∀ {l : List (Nat × AV)}, AllEq env l → updL env l = env
  | [], _ => rfl
  | (t, x) :: l, ⟨h1, h2⟩ => by
    funext q
    unfold updL upd
    rw [updL_self h2]
    split
    · rename_i h; rw [h, h1]
    rfl
section
variable {C : Cx} {Q : Exit → Sta → Prop} {σ : Sta}
/-- A loop; i says in which state a round begins. -/
theorem AW.loopI {ι : Type} {c : Code} (l : ι → List (Nat × AV)) (T : ι → Sl) (H : ι → Prop) (μ : ι → Nat) (i0 : ι) (h0 : H i0) (he : AllEq σ.env (l i0)) (hT : σ.T = T i0)
    (round : ∀ i ρ, H i → AW C c (thenE (fun σ' => ∃ i', H i' ∧ μ i' < μ i ∧ AllEq σ'.env (l i') ∧ σ'.T = T i' ∧ σ'.n = σ.n) Q) ⟨updL ρ (l i), T i, σ.n⟩) : AW C (.loop c) Q σ := by
  intro a w hs b k cs
  have key : ∀ n i σ' a w, μ i = n → H i → AllEq σ'.env (l i) → σ'.T = T i → σ'.n = σ.n → St C σ' a w →
      ∃ e a' w', hat C Q e a' w' ∧ Arrives C.P (lone (b.at a (.code c :: .inLoop c :: k)) cs w) b k cs e a' w' := by
    intro n
    induction n using Nat.strongRecOn with
    | _ n ih =>
      intro i σ' a w hi hH he' hT' hn' hs
      have hr := round i σ'.env hH
      rw [updL_self he', ← hT', ← hn'] at hr
      obtain ⟨e, a₁, w₁, ⟨σ₁, hs₁, hq⟩, harr⟩ := hr a w hs b (.inLoop c :: k) cs
      cases e with
      | normal =>
        obtain ⟨i', g1, g2, g3, g4, g5⟩ := hq
        obtain ⟨e₂, a₂, w₂, hq₂, harr₂⟩ := ih (μ i') (hi ▸ g2) i' σ₁ a₁ w₁ rfl g1 g3 g4 (by rw [g5, hn']) hs₁
        exact ⟨e₂, a₂, w₂, hq₂, .of_steps (Steps.trans harr (.one step_inLoop)) harr₂⟩
      | exit id => exact ⟨_, a₁, w₁, ⟨σ₁, hs₁, hq⟩, .pass (x := .inLoop c) rfl (fun _ _ => .inl (by simp)) harr⟩
      | goto l => exact ⟨_, a₁, w₁, ⟨σ₁, hs₁, hq⟩, .pass (x := .inLoop c) rfl (fun _ _ => .inl (by simp)) harr⟩
      | ret => exact ⟨_, a₁, w₁, ⟨σ₁, hs₁, hq⟩, .pass (x := .inLoop c) rfl (fun _ _ => .inl (by simp)) harr⟩
      | panic ch => exact ⟨_, a₁, w₁, ⟨σ₁, hs₁, hq⟩, .pass (x := .inLoop c) rfl (fun _ _ => .inl (by simp)) harr⟩
      | outgrown => exact ⟨_, a₁, w₁, ⟨σ₁, hs₁, hq⟩, .pass (x := .inLoop c) rfl (fun _ _ => .inl (by simp)) harr⟩
  obtain ⟨e, a', w', hq, harr⟩ := key _ i0 σ a w rfl h0 he hT rfl hs
  exact ⟨e, a', w', hq, .of_steps (.one step_loop) harr⟩
end
end Go.Proofs.YtfmnaigedgmhoaaGreatDoor
namespace Go.Proofs.YtfmnaigedgmhoaaGreatDoor
open Go.RowKit
set_option linter.unusedSimpArgs false
set_option linter.unusedVariables false
section
variable {C : Cx} {o : Oper} {ev : Operand → AV} {T : Sl} {t yt : TypeId} {p q : Operand} {x y : Int}
theorem op_addi (ho : o.op = .binOp .add t p q yt) (hp : ev p = .v (.int .i64 x)) (hq : ev q = .v (.int .i64 y)) (h : -9223372036854775808 ≤ x + y ∧ x + y ≤ 9223372036854775807) : OpP C o ev T (.v (.int .i64 (x + y))) := op_add ho hp hq (IntWalk.i64_in _ h)
theorem op_subi (ho : o.op = .binOp .sub t p q yt) (hp : ev p = .v (.int .i64 x)) (hq : ev q = .v (.int .i64 y)) (h : -9223372036854775808 ≤ x - y ∧ x - y ≤ 9223372036854775807) : OpP C o ev T (.v (.int .i64 (x - y))) := op_sub ho hp hq (IntWalk.i64_in _ h)
theorem op_quoi (ho : o.op = .binOp .quo t p q yt) (hp : ev p = .v (.int .i64 x)) (hq : ev q = .v (.int .i64 y)) (h : 0 ≤ x ∧ x ≤ 9223372036854775807 ∧ 0 < y) : OpP C o ev T (.v (.int .i64 (x / y))) := op_quo ho hp hq (by omega) (by
  rw [Int.tdiv_eq_ediv_of_nonneg h.1]
  refine IntWalk.i64_in _ ⟨?_, ?_⟩
  · have := Int.ediv_nonneg h.1 (Int.le_of_lt h.2.2); omega
  have := Int.ediv_le_self y h.1; omega)
theorem op_remi (ho : o.op = .binOp .rem t p q yt) (hp : ev p = .v (.int .i64 x)) (hq : ev q = .v (.int .i64 y)) (h : 0 ≤ x ∧ 0 < y) : OpP C o ev T (.v (.int .i64 (x % y))) := op_rem ho hp hq (by omega) (Int.tmod_eq_emod_of_nonneg h.1)
end
section
variable {C : Cx} {K : Sta → Prop} {ops : Array Oper} {o : Oper} {l : List Oper} {env : Nat → AV} {T : Sl} {n : Nat}
/-- The operation without the guard (g, b). -/
def ung (g : Nat) (b : Bool) (o : Oper) : Oper := ⟨o.dst, o.op, o.type, o.pos, o.after, if o.guard == some (g, b) then none else o.guard⟩
theorem execOp_ung (g : Nat) (b : Bool) (o : Oper) (ρ : Operand → Value) : execOp ρ (ung g b o) = execOp ρ o := by
  cases o; rfl
theorem wpQuiet_ung {P : Program} {D : World → Prop} {Q : Act → Prop} {g c : Nat} {o' : Oper} {b : Bool} (ho' : ops[g]? = some o') (hd : o'.dst = some c) : ∀ (seg : List Oper) (a : Act), c < a.tmps.size → a.eval (.tmp c) = .bool b → (∀ o ∈ seg, o.dst ≠ some c) → wpQuiet P ops D Q (seg.map (ung g b)) a → wpQuiet P ops D Q seg a
  | [], a, _, _, _, h => h
  | o :: seg, a, hlt, hb, hs, h => by
    have hne := hs o (by simp)
    have keep : ∀ v, (a.put o.dst v).eval (.tmp c) = .bool b := fun v => by
      show (a.put o.dst v).tmps.getD c undef = _
      rw [Act.getD_put, if_neg (fun h => hne h.1)]; exact hb
    have hwant : Region.wanted (ung g b o) (yielded ops a.tmps) = Region.wanted o (yielded ops a.tmps) := by
      unfold ung
      by_cases hg : o.guard = some (g, b)
      · have e : (a.tmps)[c]? = some (.bool b) := by
          have hb' := hb
          simp [Act.eval, hlt] at hb'
          simp [hlt, hb']
        simp [Region.wanted, hg, yielded, ho', hd, e]
      have : (o.guard == some (g, b)) = false := by rw [beq_eq_false_iff_ne]; exact hg
      simp [Region.wanted, this]
    rw [List.map_cons] at h
    unfold wpQuiet at h ⊢
    rw [hwant] at h
    split
    · rename_i hw
      rw [if_pos hw] at h
      obtain ⟨v, h1, h2⟩ := h
      refine ⟨v, fun w hw' => ?_, wpQuiet_ung ho' hd seg _ (by rw [Act.size_put]; exact hlt) (keep v) (fun o h => hs o (by simp [h])) h2⟩
      have := h1 w hw'
      unfold Oper.quietAt at this ⊢
      rw [execOp_ung] at this
      exact this
    rename_i hw
    rw [if_neg hw] at h
    exact wpQuiet_ung ho' hd seg _ (by rw [Act.size_put]; exact hlt) (keep undef) (fun o h => hs o (by simp [h])) h
theorem AQ.ung {σ : Sta} {seg : List Oper} {g c : Nat} {o' : Oper} {b : Bool} (ho' : ops[g]? = some o') (hd : o'.dst = some c) (hc : c < σ.n) (hv : σ.env c = .v (.bool b)) (hs : ∀ o ∈ seg, o.dst ≠ some c) (h : AQ C ops K (seg.map (ung g b)) σ) : AQ C ops K seg σ := by
  intro a w S vals bss hst
  exact wpQuiet_ung ho' hd seg a (by rw [hst.2.1]; exact hc) (hst.st.bool (c := .tmp c) (by simpa [noneBig] using hc) rfl hv) hs (h a w S vals bss hst)
/-- 'a && b' ahead: the segment under the guard (g, true), then the pick. -/
theorem aqAnd' {g c d pd : Nat} {b b2 : Bool} {p : Oper} {rest : List Oper} {o' : Oper} (seg : List Oper) (W : List Nat) (hl : l = seg ++ p :: rest) (hg0 : (match l with | o :: _ => o.guard | [] => none) = some (g, true)) (ho' : ops[g]? = some o') (hd : o'.dst = some c) (hc : Nat.ble (c + 1) n = true) (hv : env c = .v (.bool b)) (hs : seg.all (fun o => (o.guard == some (g, true)) && (match o.dst with | some t => W.contains t && t != c | none => true)) = true) (hp : p.op = .pick (.tmp c) (.tmp d) (.const (.bool false))) (hpg : p.guard = none) (hpd : p.dst = some pd) (hdn : Nat.ble (d + 1) n = true) (hcW : W.contains c = false)
    (h1 : b = true → AQ C ops (segK ⟨env, T, n⟩ W d b2) (seg.map (ung g true)) ⟨env, T, n⟩) (h2 : AQ C ops K rest ⟨upd (era W env) pd (.v (.bool (b && b2))), T, n⟩) : AQ C ops K l ⟨env, T, n⟩ :=
  aqAnd seg rest p W hl ho' hd (Nat.le_of_ble_eq_true hc) hv hs hp hpg hpd (Nat.le_of_ble_eq_true hdn) hcW (fun hb => AQ.ung ho' hd (Nat.le_of_ble_eq_true hc) (by subst hb; exact hv) (fun o ho h => by
    have := List.all_eq_true.1 hs o ho
    rw [h] at this
    simp at this) (h1 hb)) h2
theorem aqOr' {g c d pd : Nat} {b b2 : Bool} {p : Oper} {rest : List Oper} {o' : Oper} (seg : List Oper) (W : List Nat) (hl : l = seg ++ p :: rest) (hg0 : (match l with | o :: _ => o.guard | [] => none) = some (g, false)) (ho' : ops[g]? = some o') (hd : o'.dst = some c) (hc : Nat.ble (c + 1) n = true) (hv : env c = .v (.bool b)) (hs : seg.all (fun o => (o.guard == some (g, false)) && (match o.dst with | some t => W.contains t && t != c | none => true)) = true) (hp : p.op = .pick (.tmp c) (.const (.bool true)) (.tmp d)) (hpg : p.guard = none) (hpd : p.dst = some pd) (hdn : Nat.ble (d + 1) n = true) (hcW : W.contains c = false)
    (h1 : b = false → AQ C ops (segK ⟨env, T, n⟩ W d b2) (seg.map (ung g false)) ⟨env, T, n⟩) (h2 : AQ C ops K rest ⟨upd (era W env) pd (.v (.bool (b || b2))), T, n⟩) : AQ C ops K l ⟨env, T, n⟩ :=
  aqOr seg rest p W hl ho' hd (Nat.le_of_ble_eq_true hc) hv hs hp hpg hpd (Nat.le_of_ble_eq_true hdn) hcW (fun hb => AQ.ung ho' hd (Nat.le_of_ble_eq_true hc) (by subst hb; exact hv) (fun o ho h => by
    have := List.all_eq_true.1 hs o ho
    rw [h] at this
    simp at this) (h1 hb)) h2
/-- A segment has come to its end. -/
theorem aqSeg {env0 : Nat → AV} {T0 : Sl} {n0 : Nat} {W : List Nat} {d : Nat} {b2 : Bool} (hT : T = T0) (hn : n = n0) (hv : env d = .v (.bool b2)) (hW : ∀ t, W.contains t = false → env t = env0 t) : AQ C ops (segK ⟨env0, T0, n0⟩ W d b2) [] ⟨env, T, n⟩ := AQ.nil ⟨hT, hn, hv, hW⟩
theorem upd_out {env env0 : Nat → AV} {W : List Nat} {d : Nat} {x : AV} (hd : W.contains d = true) (h : ∀ t, W.contains t = false → env t = env0 t) : ∀ t, W.contains t = false → upd env d x t = env0 t := fun t ht => by
  unfold upd
  rw [if_neg]
  · exact h t ht
  intro e; subst e; rw [hd] at ht; cases ht
theorem era_out {env env0 : Nat → AV} {W W' : List Nat} (hd : W'.all (fun t => W.contains t) = true) (h : ∀ t, W.contains t = false → env t = env0 t) : ∀ t, W.contains t = false → era W' env t = env0 t := fun t ht => by
  unfold era
  rw [if_neg]
  · exact h t ht
  intro e
  have := List.all_eq_true.1 hd t (by simpa using e)
  rw [this] at ht; cases ht
end
end Go.Proofs.YtfmnaigedgmhoaaGreatDoor
namespace Go.Proofs.YtfmnaigedgmhoaaGreatDoor
open Go.RowKit
set_option linter.unusedSimpArgs false
set_option linter.unusedVariables false
section
variable {C : Cx} {T : Sl} {S S2 : Nat → Prop} {vals : List Value} {bss : List (List Nat)} {w w' : World}
theorem Mem.set2 {r k : Nat} {x x' : AV} {v : Value} {bs bs' : List Nat} (hm : Mem C T S vals bss w) (hs : T.slots[r]? = some (k, x)) (hv : vals[r]? = some v) (hb : bss[r]? = some bs) (hk : Kept (fun q => q ∉ bs) w w')
    (h1S : ∀ q, S q → S2 q) (h2S : ∀ q, S2 q → S q ∨ ((w.heap.size ≤ q ∨ q ∈ bs) ∧ q < w'.heap.size ∧ q ∉ bs')) (hr : Rep C.P S2 w' bs' v x') (hn : bs'.Nodup) (hsub : ∀ b ∈ bs', b ∈ bs ∨ w.heap.size ≤ b)
    (ho : ∀ e es, x' = .own e es → ∃ es0, x = .own e es0 ∧ es0.length = es.length) (hom : ∀ b ks, x' = .om b ks → ∃ ks0, x = .om b ks0) :
    Mem C ⟨T.slots.set r (k, x'), T.ep⟩ S2 vals (bss.set r bs') w' ∧ Follows C.P S w T vals S2 w' ⟨T.slots.set r (k, x'), T.ep⟩ vals := by
  have hrl : r < T.slots.length := (List.getElem?_eq_some_iff.1 hs).1
  have hkS : ∀ q, q < w.heap.size → S q → q ∉ bs := fun q _ hq hqb => hm.apart r bs hb q hqb hq
  constructor
  · refine ⟨hm.kept.then hk fun q hq hq' hqb => ?_, fun q h => h1S q (hm.s0 q h), fun q h => ?_, fun q h => ?_, by simp [hm.nv], by simp [hm.nb], ?_, ?_, ?_, ?_, ?_, ?_, ?_, hm.pos⟩
    · rcases hm.mine r bs hb q hqb with h | h
      · exact hq' h
      omega
    · rcases h2S q h with h | ⟨h | h, _⟩
      · exact hm.sub q h
      · have := hm.kept.size; exact .inr (.inr (by omega))
      exact .inr (hm.mine r bs hb q h)
    · rcases h2S q h with h | ⟨_, h, _⟩
      · exact Nat.lt_of_lt_of_le (hm.lt q h) hk.size
      exact h
    · intro q kq y u b1 h1 h2 h3
      rw [getElem?_set_ _ _ _ _ hrl] at h1
      rw [getElem?_set_ _ _ _ _ (by rw [hm.nb]; exact hrl)] at h3
      by_cases h : r = q
      · rw [if_pos h] at h1 h3
        subst h
        rw [hv] at h2
        injection h1 with h1; injection h1 with _ h1
        injection h2 with h2; injection h3 with h3
        subst h1; subst h2; subst h3
        exact hr
      rw [if_neg h] at h1 h3
      exact ((hm.rep q kq y u b1 h1 h2 h3).kept hk hkS fun b hb' hbb => hm.disj r q bs b1 h hb h3 b hbb hb').mono fun q _ => h1S q
    · intro q b1 h3
      rw [getElem?_set_ _ _ _ _ (by rw [hm.nb]; exact hrl)] at h3
      split at h3
      · injection h3 with h3; subst h3; exact hn
      exact hm.nodup q b1 h3
    · intro q q' b1 b2 hne h1 h2 b hb1 hb2
      rw [getElem?_set_ _ _ _ _ (by rw [hm.nb]; exact hrl)] at h1 h2
      split at h1
      · rename_i e1
        injection h1 with h1; subst h1
        rw [if_neg (fun e2 => hne (e1.symm.trans e2))] at h2
        rcases hsub b hb1 with h | h
        · exact hm.disj r q' bs b2 (fun e2 => hne (e1.symm.trans e2)) hb h2 b h hb2
        have := hm.blt h2 b hb2; omega
      rename_i e1
      split at h2
      · injection h2 with h2; subst h2
        rename_i e2
        rcases hsub b hb2 with h | h
        · exact hm.disj r q bs b1 e1 hb h1 b h hb1
        have := hm.blt h1 b hb1; omega
      exact hm.disj q q' b1 b2 hne h1 h2 b hb1 hb2
    · intro q b1 h1 b hb1 hSb
      rw [getElem?_set_ _ _ _ _ (by rw [hm.nb]; exact hrl)] at h1
      split at h1
      · injection h1 with h1; subst h1
        rcases h2S b hSb with hSb | ⟨_, _, h⟩
        · rcases hsub b hb1 with h | h
          · exact hm.apart r bs hb b h hSb
          have := hm.lt b hSb; omega
        exact h hb1
      rename_i e1
      rcases h2S b hSb with hSb | ⟨h | h, _⟩
      · exact hm.apart q b1 h1 b hb1 hSb
      · have := hm.blt h1 b hb1; omega
      exact hm.disj r q bs b1 e1 hb h1 b h hb1
    · intro q b1 h1 b hb1
      rw [getElem?_set_ _ _ _ _ (by rw [hm.nb]; exact hrl)] at h1
      split at h1
      · injection h1 with h1; subst h1
        rcases hsub b hb1 with h | h
        · exact hm.mine r bs hb b h
        have := hm.kept.size; right; omega
      exact hm.mine q b1 h1 b hb1
    · intro q y hlt h
      rw [getElem?_set_ _ _ _ _ hrl] at h
      split at h
      · rename_i e1
        injection h with h; injection h with h _
        subst e1
        exact hm.root r x hlt (by rw [hs, h])
      exact hm.root q y hlt h
    intro q kq y h
    rw [getElem?_set_ _ _ _ _ hrl] at h
    show kq < T.ep
    split at h
    · injection h with h; injection h with h _
      have := hm.ver r k x hs
      omega
    exact hm.ver q kq y h
  intro u y h
  have old : ∀ (q kq : Nat) (y' : AV), (T.slots.set r (k, x'))[q]? = some (kq, y') → T.slots[q]? = some (kq, y') ∨ (r = q ∧ kq = k ∧ x' = y') := fun q kq y' h => by
    rw [getElem?_set_ _ _ _ _ hrl] at h
    split at h
    · rename_i e1
      injection h with h; injection h with h h'
      exact .inr ⟨e1, h.symm, h'⟩
    exact .inl h
  cases y with
  | sl q kq off len =>
    refine ⟨h.1, h.2.1, fun e es v2 sz h1 h2 h3 => ?_⟩
    rcases old q kq _ h1 with h4 | ⟨rfl, rfl, hx⟩
    · exact h.2.2 e es v2 sz h4 h2 h3
    obtain ⟨es0, hx0, hl⟩ := ho e es hx
    rw [← hl]
    exact h.2.2 e es0 v2 sz (by rw [hs, hx0]) h2 h3
  | ptr q kq i j =>
    refine ⟨h.1, h.2.1, fun e es v2 sz h1 h2 h3 => ?_⟩
    rcases old q kq _ h1 with h4 | ⟨rfl, rfl, hx⟩
    · exact h.2.2 e es v2 sz h4 h2 h3
    obtain ⟨es0, hx0, hl⟩ := ho e es hx
    rw [← hl]
    exact h.2.2 e es0 v2 sz (by rw [hs, hx0]) h2 h3
  | mp q kq =>
    refine ⟨h.1, h.2.1, fun b ks v2 h1 h2 => ?_⟩
    rcases old q kq _ h1 with h4 | ⟨rfl, rfl, hx⟩
    · exact h.2.2 b ks v2 h4 h2
    obtain ⟨ks0, hx0⟩ := hom b ks hx
    exact h.2.2 b ks0 v2 (by rw [hs, hx0]) h2
  | _ => exact RefOK.kept (T := T) h hk hkS h1S
theorem unp_ok2 : ∀ (ys : List AV) (us : List Value) (bsr : List (List Nat)) (T : Sl) (vals : List Value) (bss : List (List Nat)), Mem C T S vals bss w → us.length = ys.length → bsr.length = ys.length →
    (∀ (i : Nat) (u : Value) (y : AV) (bs : List Nat), us[i]? = some u → ys[i]? = some y → bsr[i]? = some bs → Rep C.P S w bs u y ∨ (bs = [] ∧ AggOK C.P S w T vals u y)) →
    Own2 bsr → (∀ b, InL bsr b → ¬ InL bss b ∧ ¬ S b ∧ (b ∈ C.own0 ∨ C.w0.heap.size ≤ b)) →
    ∃ vals' bss', Mem C (unp ys T).2 S vals' bss' w ∧ Follows C.P S w T vals S w (unp ys T).2 vals' ∧ RL (AggOK C.P S w (unp ys T).2 vals') us (unp ys T).1
  | [], us, bsr, T, vals, bss, hm, h1, h2, _, _, _ => by
    have : us = [] := List.eq_nil_of_length_eq_zero h1
    subst this
    exact ⟨vals, bss, hm, Follows.refl, RL.nil⟩
  | y :: ys, [], _, _, _, _, _, h1, _, _, _, _ => by simp at h1
  | y :: ys, u :: us, [], _, _, _, _, _, h2, _, _, _ => by simp at h2
  | y :: ys, u :: us, bs :: bsr, T, vals, bss, hm, h1, h2, h3, h4, h5 => by
    have hd := h3 0 u y bs rfl rfl rfl
    have htl : ∀ (i : Nat) (u : Value) (y : AV) (b : List Nat), us[i]? = some u → ys[i]? = some y → bsr[i]? = some b → Rep C.P S w b u y ∨ (b = [] ∧ AggOK C.P S w T vals u y) := fun i u y b q1 q2 q3 => h3 (i + 1) u y b (by simpa using q1) (by simpa using q2) (by simpa using q3)
    have hown : Own2 bsr := ⟨fun r b h => h4.nodup (r + 1) b (by simpa using h), fun r r' b b' hne q1 q2 => h4.disj (r + 1) (r' + 1) b b' (by omega) (by simpa using q1) (by simpa using q2)⟩
    have hin : ∀ b, InL bsr b → InL (bs :: bsr) b := fun b ⟨r, b1, q1, q2⟩ => ⟨r + 1, b1, by simpa using q1, q2⟩
    have plain : (∀ e es, y ≠ .own e es) → AggOK C.P S w T vals u y ∧ bs = bs → ∃ vals' bss', Mem C (unp (y :: ys) T).2 S vals' bss' w ∧ Follows C.P S w T vals S w (unp (y :: ys) T).2 vals' ∧ RL (AggOK C.P S w (unp (y :: ys) T).2 vals') (u :: us) (unp (y :: ys) T).1 := by
      intro hne ⟨ha, _⟩
      obtain ⟨vals', bss', g1, g2, g3⟩ := unp_ok2 ys us bsr T vals bss hm (by simpa using h1) (by simpa using h2) htl hown fun b hb => h5 b (hin b hb)
      have e : unp (y :: ys) T = (y :: (unp ys T).1, (unp ys T).2) := by
        cases y <;> first | rfl | (exact absurd rfl (hne _ _))
      rw [e]
      exact ⟨vals', bss', g1, g2, RL.cons (AggOK.follows g2 ha) g3⟩
    by_cases ho : ∃ e es, y = .own e es
    · obtain ⟨e, es, rfl⟩ := ho
      have hrep : ∃ b0, Rep C.P S w b0 u (.own e es) ∧ b0.Nodup ∧ (∀ b ∈ b0, b ∈ bs) := by
        rcases hd with h | ⟨rfl, h⟩
        · exact ⟨bs, h, h4.nodup 0 bs rfl, fun b h => h⟩
        exact ⟨[], h, by simp, by simp⟩
      obtain ⟨b0, hr, hnd, hsub⟩ := hrep
      obtain ⟨hm', hf⟩ := hm.push2 hr hnd fun b hb => h5 b ⟨0, bs, rfl, hsub b hb⟩
      obtain ⟨vals', bss', g1, g2, g3⟩ := unp_ok2 ys us bsr (pushT T (.own e es)) (vals ++ [u]) (bss ++ [b0]) hm' (by simpa using h1) (by simpa using h2) (fun i u y b q1 q2 q3 => (htl i u y b q1 q2 q3).imp id fun h => ⟨h.1, AggOK.follows hf h.2⟩) hown fun b hb => by
        obtain ⟨q1, q2, q3⟩ := h5 b (hin b hb)
        refine ⟨fun ⟨r, b1, p1, p2⟩ => ?_, q2, q3⟩
        rw [getElem?_snoc] at p1
        split at p1
        · exact q1 ⟨r, b1, p1, p2⟩
        split at p1
        · injection p1 with p1
          subst p1
          obtain ⟨r', b2, p3, p4⟩ := hb
          exact h4.disj 0 (r' + 1) bs b2 (by omega) rfl (by simpa using p3) b (hsub b p2) p4
        cases p1
      refine ⟨vals', bss', g1, fun u x h => g2 u x (hf u x h), RL.cons ?_ g3⟩
      have hp := push_sl (C := C) (S := S) (T := T) hm.nv hr
      exact AggOK.follows g2 (show AggOK C.P S w _ _ u (.sl T.slots.length T.ep 0 es.length) from hp)
    refine plain (fun e es h => ho ⟨e, es, h⟩) ⟨?_, rfl⟩
    rcases hd with h | ⟨rfl, h⟩
    · cases h with
      | own => exact absurd ⟨_, _, rfl⟩ ho
      | any h => trivial
      | v h => exact Rep.v h
      | sln a b => exact Rep.sln a b
      | ro a b c d e f => exact Rep.ro a b c d e f
      | rof a b c d e => exact Rep.rof a b c d e
      | rop a b c => exact Rep.rop a b c
      | clo a b => exact Rep.clo a b
      | bm a b => exact Rep.bm a b
      | nm h => exact Rep.one h
      | byt => rfl
      | om => rfl
    exact h
/-- References to the callee's slot 0 are references to the caller's slot. -/
def ren1 (r k : Nat) : AV → AV
  | .sl _ _ off len => .sl r k off len
  | .ptr _ _ i j => .ptr r k i j
  | .mp _ _ => .mp r k
  | x => x
def renA (r k : Nat) : AV → AV
  | .agg cs => .agg (cs.map (ren1 r k))
  | x => ren1 r k x
theorem ren1_ok {P : Program} {x : AV} {T' : Sl} {vals' : List Value} {v : Value} {r k : Nat} (hs : T'.slots[r]? = some (k, x)) (hv : vals'[r]? = some v) (hk : k < T'.ep) {u : Value} {y : AV} (h : RefOK P S w (insT [x]) [v] u y) (hc : clo1 1 y = true) : RefOK P S w T' vals' u (ren1 r k y) := by
  cases y with
  | sl q kq off len =>
    simp only [clo1, Bool.and_eq_true, beq_iff_eq, decide_eq_true_eq] at hc
    obtain ⟨hc1, rfl⟩ := hc
    obtain rfl : q = 0 := by omega
    refine ⟨hk, h.2.1, fun e es v2 sz h1 h2 h3 => ?_⟩
    rw [hs] at h1; injection h1 with h1; injection h1 with _ h1
    rw [hv] at h2; injection h2 with h2
    subst h2
    exact h.2.2 e es v sz (by rw [h1]; rfl) rfl h3
  | ptr q kq i j =>
    simp only [clo1, Bool.and_eq_true, beq_iff_eq, decide_eq_true_eq] at hc
    obtain ⟨hc1, rfl⟩ := hc
    obtain rfl : q = 0 := by omega
    refine ⟨hk, h.2.1, fun e es v2 sz h1 h2 h3 => ?_⟩
    rw [hs] at h1; injection h1 with h1; injection h1 with _ h1
    rw [hv] at h2; injection h2 with h2
    subst h2
    exact h.2.2 e es v sz (by rw [h1]; rfl) rfl h3
  | mp q kq =>
    simp only [clo1, Bool.and_eq_true, beq_iff_eq, decide_eq_true_eq] at hc
    obtain ⟨hc1, rfl⟩ := hc
    obtain rfl : q = 0 := by omega
    refine ⟨hk, h.2.1, fun b ks v2 h1 h2 => ?_⟩
    rw [hs] at h1; injection h1 with h1; injection h1 with _ h1
    rw [hv] at h2; injection h2 with h2
    subst h2
    exact h.2.2 b ks v (by rw [h1]; rfl) rfl
  | _ => exact h
theorem renA_ok {P : Program} {x : AV} {T' : Sl} {vals' : List Value} {v : Value} {r k : Nat} (hs : T'.slots[r]? = some (k, x)) (hv : vals'[r]? = some v) (hk : k < T'.ep) {u : Value} {y : AV} (h : AggOK P S w (insT [x]) [v] u y) (hc : cloA 1 y = true) : AggOK P S w T' vals' u (renA r k y) := by
  cases y with
  | any => trivial
  | agg cs =>
    obtain ⟨us, e, rl⟩ := h
    simp only [cloA, List.all_eq_true] at hc
    refine ⟨us, e, by simp [rl.1], fun i u x hu hx => ?_⟩
    rw [List.getElem?_map] at hx
    cases hq : cs[i]? with
    | none => rw [hq] at hx; cases hx
    | some c =>
      rw [hq] at hx
      simp only [Option.map_some, Option.some.injEq] at hx
      subst hx
      exact ren1_ok hs hv hk (rl.2 i u c hu hq) (hc c (List.mem_of_getElem? hq))
  | _ => simp only [AggOK, renA, ren1] at h ⊢; exact ren1_ok hs hv hk h hc
theorem Rep.ren {P : Program} {bs : List Nat} {u : Value} {y : AV} (h : Rep P S w bs u y) (r k : Nat) : Rep P S w bs u (renA r k y) := by
  cases y with
  | agg cs => exact absurd rfl (h.plain cs).1
  | sl => cases h
  | ptr => cases h
  | mp => cases h
  | _ => exact h
/-- What an argument is lent as, slot r being lent for writing. -/
inductive View1 (T : Sl) (r k : Nat) : AV → AV → Prop
  | base {y x} (h : View T false y x) : View1 T r k y x
  | ptr {i j} : View1 T r k (.ptr r k i j) (.ptr 0 0 i j)
  | sl {off len} : View1 T r k (.sl r k off len) (.sl 0 0 off len)
variable {o : Oper} {ev : Operand → AV}
theorem view1_ok (hm : Mem C T S vals bss w) {r k : Nat} {x0 : AV} {v : Value} (hs : T.slots[r]? = some (k, x0)) (hv : vals[r]? = some v) {y x : AV} (h : View1 T r k y x) {u : Value} (hu : TmpOK C.P S w T vals u y) : AggOK C.P S w (insT [x0]) [v] u x := by
  have low : ∀ (q kq : Nat) (z : AV), (insT [x0]).slots[q]? = some (kq, z) → q = 0 ∧ kq = 0 ∧ z = x0 := fun q kq z h => by
    cases q with
    | zero => simp [insT] at h; exact ⟨rfl, h.1.symm, h.2.symm⟩
    | succ q => simp [insT] at h
  cases h with
  | base h =>
    have h1 := view_ok hm h hu
    have h2 : AggOK C.P S w (insT []) [] u x := by
      have hl : ∀ k, lent false S bss k → S k := fun k h => h.resolve_right (by simp)
      cases x with
      | any => trivial
      | agg cs => obtain ⟨us, e, rl⟩ := h1; exact ⟨us, e, rl.mono fun u x h => RefOK.kept h (Kept.refl (fun _ => True) w) (fun _ _ _ => trivial) hl⟩
      | _ => simp only [AggOK] at h1 ⊢; exact RefOK.kept h1 (Kept.refl (fun _ => True) w) (fun _ _ _ => trivial) hl
    have hn : nrefA x = true := by
      cases h with
      | same h => exact h
      | nil => rfl
      | rof => rfl
    exact h2.nref hn fun _ h => h
  | ptr =>
    refine ⟨by simp [insT], hu.2.1, fun e es v2 sz h1 h2 h3 => ?_⟩
    obtain ⟨_, _, q⟩ := low _ _ _ h1
    have h2 : some v = some v2 := h2
    injection h2 with h2
    subst h2
    exact hu.2.2 e es v sz (by rw [hs, q]) hv h3
  | sl =>
    refine ⟨by simp [insT], hu.2.1, fun e es v2 sz h1 h2 h3 => ?_⟩
    obtain ⟨_, _, q⟩ := low _ _ _ h1
    have h2 : some v = some v2 := h2
    injection h2 with h2
    subst h2
    exact hu.2.2 e es v sz (by rw [hs, q]) hv h3
theorem op_call1 {f : FuncId} {args : Array Operand} {ts : Array TypeId} {r k : Nat} {x0 x1 : AV} {xs ys : List AV} (ho : o.op = .call { callee := .value (.func f), args := args, argTypes := ts }) (hf : Enters C.P f) (hsp : Fn C.P f [x0] xs ys [x1]) (hs : T.slots[r]? = some (k, x0)) (hv : RL (View1 T r k) (args.toList.map ev) xs)
    (hx1 : ∃ e es es', x0 = .own e es ∧ x1 = .own e es' ∧ es.length = es'.length) (hn : ys.all (cloA 1) = true) {x : AV} {T' : Sl} (hx : packR (unp (ys.map (renA r k)) ⟨T.slots.set r (k, x1), T.ep⟩).1 = x) (hT : (unp (ys.map (renA r k)) ⟨T.slots.set r (k, x1), T.ep⟩).2 = T') : OpJ C o ev T x T' := by
  intro a w S vals bss hm h K hK Q
  have hrl : r < T.slots.length := (List.getElem?_eq_some_iff.1 hs).1
  have hargs : ∀ y ∈ args, TmpOK C.P S w T vals (a.eval y) (ev y) := fun y hy => h y (by simp [ho, Op.operands, Call.operands]; exact .inr hy)
  obtain ⟨v, bs, hvr, hbr, hrep⟩ := hm.slot hs
  have hcame : Came C.P [x0] xs w S [v] [bs] (args.toList.map a.eval) := by
    refine ⟨hm.glob, hm.lt, rfl, rfl, fun q x u b h1 h2 h3 => ?_, ⟨fun q b h1 => ?_, fun q q' b b' hne h1 h2 => ?_⟩, fun b ⟨q, b1, h1, h2⟩ => ?_, by have := hv.1; simpa using this, fun i u x h1 h2 => ?_⟩
    · cases q with
      | zero => simp at h1 h2 h3; subst h1; subst h2; subst h3; exact hrep
      | succ q => simp at h1
    · cases q with
      | zero => simp at h1; subst h1; exact hm.nodup r _ hbr
      | succ q => simp at h1
    · cases q with
      | zero => cases q' with
        | zero => exact absurd rfl hne
        | succ q' => simp at h2
      | succ q => simp at h1
    · cases q with
      | zero => simp at h1; subst h1; exact hm.apart r _ hbr b h2
      | succ q => simp at h1
    rw [List.getElem?_map] at h1
    cases hq : args.toList[i]? with
    | none => rw [hq] at h1; cases h1
    | some y =>
      rw [hq] at h1
      simp only [Option.map_some, Option.some.injEq] at h1
      subst h1
      exact view1_ok hm hs hvr (hv.2 i (ev y) x (by rw [List.getElem?_map, hq]; rfl) h2) (hargs y (Array.mem_toList_iff.1 (List.mem_of_getElem? hq)))
  have hc := hsp w S [v] [bs] _ hcame
  have hrun : (execOp a.eval o).run C.P w = .ok (.enter f (args.toList.map a.eval).toArray) w := by
    have e1 : (args.map a.eval) = (args.toList.map a.eval).toArray := by apply Array.toList_inj.1; simp
    simp only [execOp, ho, resolve, Act.eval, Deferred.ofValue, Sem.run_bind, Sem.run_pure, Result.andThen_ok, invoke]
    rw [← e1]
    simpa using hf _ w
  unfold Oper.wp
  rw [hrun, Oper.upon_enter]
  refine hc.mono ?_
  rintro e w' ⟨us, ys', outs, bsr, bss', rfl, went, rfl, rfl⟩
  simp only
  obtain ⟨bs', rfl⟩ : ∃ b, bss' = [b] := by
    match bss', went.nb with
    | [b], _ => exact ⟨b, rfl⟩
  have hin1 : ∀ (b : List Nat) (q : Nat), InL [b] q ↔ q ∈ b := fun b q => by
    constructor
    · rintro ⟨i, b1, h1, h2⟩
      cases i with
      | zero => simp at h1; subst h1; exact h2
      | succ i => simp at h1
    intro h; exact ⟨0, b, rfl, h⟩
  have hk : Kept (fun q => q ∉ bs) w w' := went.kept.mono fun q _ h h' => h ((hin1 _ _).1 h')
  have hinR : ∀ q, InL bsr q → InL (bsr ++ [bs']) q := fun q ⟨i, b, h1, h2⟩ => ⟨i, b, by rw [List.getElem?_append_left (List.getElem?_eq_some_iff.1 h1).1]; exact h1, h2⟩
  have hinS : ∀ q, q ∈ bs' → InL (bsr ++ [bs']) q := fun q h => ⟨bsr.length, bs', by simp, h⟩
  have hown' := went.own
  have hownR : Own2 bsr := ⟨fun i b h => hown'.nodup i b (by rw [List.getElem?_append_left (List.getElem?_eq_some_iff.1 h).1]; exact h), fun i j b b' hne h1 h2 => hown'.disj i j b b' hne (by rw [List.getElem?_append_left (List.getElem?_eq_some_iff.1 h1).1]; exact h1) (by rw [List.getElem?_append_left (List.getElem?_eq_some_iff.1 h2).1]; exact h2)⟩
  have hmine : ∀ q, InL (bsr ++ [bs']) q → w.heap.size ≤ q ∨ q ∈ bs := fun q h => (went.mine q h).imp id (hin1 _ _).1
  obtain ⟨e0, es, es', rfl, rfl, hle⟩ := hx1
  obtain ⟨hm2, hf2⟩ := hm.set2 (S2 := After S w w' [bs] (bsr ++ [bs'])) (x' := .own e0 es') (bs' := bs') hs hvr hbr hk (fun q h => .inl h) (fun q h => h.imp id fun ⟨h1, h2, h3⟩ => ⟨h1.imp id (hin1 _ _).1, h2, fun h => h3 (hinS q h)⟩)
    (went.rep 0 _ v bs' rfl rfl rfl) (hown'.nodup bsr.length bs' (by simp)) (fun q h => (hmine q (hinS q h)).symm) (fun e es2 h => by injection h with h1 h2; subst h1; subst h2; exact ⟨es, rfl, hle⟩) (fun b ks h => by cases h)
  have hs2 : (T.slots.set r (k, AV.own e0 es'))[r]? = some (k, .own e0 es') := by simp [hrl]
  have hcl : ∀ (i : Nat) (y : AV), ys'[i]? = some y → cloA 1 y = true := fun i y h => List.all_eq_true.1 hn y (List.mem_of_getElem? h)
  obtain ⟨vals', bss'', g1, g2, g3⟩ := unp_ok2 (ys'.map (renA r k)) us bsr _ vals _ hm2 (by simp [went.nu]) (by simp [went.nr]) (fun i u y b q1 q2 q3 => by
    rw [List.getElem?_map] at q2
    cases hq : ys'[i]? with
    | none => rw [hq] at q2; cases q2
    | some y0 =>
      rw [hq] at q2
      simp only [Option.map_some, Option.some.injEq] at q2
      subst q2
      rcases went.res i u y0 b q1 hq q3 with h | ⟨h1, h2⟩
      · exact .inl (h.ren r k)
      · exact .inr ⟨h1, renA_ok (T' := ⟨T.slots.set r (k, .own e0 es'), T.ep⟩) hs2 hvr (hm.ver r k _ hs) h2 (hcl i y0 hq)⟩) hownR (fun q hq => by
      refine ⟨fun ⟨i, b, h1, h2⟩ => ?_, fun h => ?_, ?_⟩
      · rw [getElem?_set_ _ _ _ _ (by rw [hm.nb]; exact hrl)] at h1
        obtain ⟨j, bj, h3, h4⟩ := hq
        split at h1
        · injection h1 with h1; subst h1
          refine hown'.disj j bsr.length bj bs' ?_ (by rw [List.getElem?_append_left (List.getElem?_eq_some_iff.1 h3).1]; exact h3) (by simp) q h4 h2
          have := (List.getElem?_eq_some_iff.1 h3).1; omega
        rename_i hne
        rcases hmine q (hinR q ⟨j, bj, h3, h4⟩) with h | h
        · have := hm.blt h1 q h2; omega
        exact hm.disj r i bs b hne hbr h1 q h h2
      · rcases h with h | ⟨_, _, h⟩
        · rcases hmine q (hinR q hq) with h' | h'
          · have := hm.lt q h; omega
          exact hm.apart r bs hbr q h' h
        exact h (hinR q hq)
      rcases hmine q (hinR q hq) with h | h
      · have := hm.kept.size; exact .inr (by omega)
      exact hm.mine r bs hbr q h)
  subst hT
  refine hK _ _ _ _ _ g1 (fun u x h => g2 u x (hf2 u x h)) ?_
  subst hx
  match us, hz : (unp (ys'.map (renA r k)) ⟨T.slots.set r (k, .own e0 es'), T.ep⟩).1, g3 with
  | [], zs, rl =>
    have : zs = [] := List.eq_nil_of_length_eq_zero rl.1.symm
    subst this
    exact ⟨#[], rfl, RL.nil⟩
  | [u], zs, rl =>
    obtain ⟨z, rfl⟩ : ∃ z, zs = [z] := by
      match zs, rl.1 with
      | [z], _ => exact ⟨z, rfl⟩
    have := rl.2 0 u z rfl rfl
    cases z with
    | tup cs => exact absurd rfl (Rep.plain (show Rep _ _ _ _ _ (.tup cs) from this) cs).2
    | _ => exact this
  | u :: u2 :: us, zs, rl =>
    obtain ⟨z1, z2, zs', rfl⟩ : ∃ z1 z2 zs', zs = z1 :: z2 :: zs' := by
      match zs, rl.1 with
      | z1 :: z2 :: zs', _ => exact ⟨z1, z2, zs', rfl⟩
    exact ⟨_, rfl, by simpa using rl⟩
end
end Go.Proofs.YtfmnaigedgmhoaaGreatDoor
namespace Go.Proofs.YtfmnaigedgmhoaaGreatDoor
open Go.RowKit
set_option linter.unusedSimpArgs false
set_option linter.unusedVariables false
section
variable {P : Program} {ops : Array Oper} {md : Region.Mode} {D : World → Prop}
def wpAnyLQ (P : Program) (md : Region.Mode) (ops : Array Oper) (D : World → Prop) (n : Nat) (L : Array Bool → Act → Prop) : Nat → Array Bool → Act → Prop
  | 0, listed, a => L listed a
  | f + 1, listed, a =>
    Region.ready md ops listed ≠ [] ∧ ∀ i ∈ Region.ready md ops listed, i < n ∧ qOp P ops D i (wpAnyLQ P md ops D n L f (listed.setIfInBounds i true)) a
theorem wpAny_of_headQ {n g : Nat} {L : Array Bool → Act → Prop} {Q' : Exit → Act → World → Prop} (hL : ∀ listed a w, D w → L listed a → wpAny P md ops Q' g listed a w) :
    ∀ (f : Nat) (listed : Array Bool) (a : Act) (w : World), D w → wpAnyLQ P md ops D n L f listed a → wpAny P md ops Q' (f + g) listed a w
  | 0, listed, a, w, hw, h => by rw [Nat.zero_add]; exact hL _ _ _ hw h
  | f + 1, listed, a, w, hw, h => by
    rw [show f + 1 + g = (f + g) + 1 by omega]
    exact ⟨fun h0 => absurd h0 h.1, fun i hi => wpOp_of_qOp hw (fun a' w' hw' h' => wpAny_of_headQ hL f _ a' w' hw' h') (h.2 i hi).2⟩
theorem wpAnyLQ_first {n i : Nat} {oi : Oper} {v : Value} {L : Array Bool → Act → Prop} (hi : ops[i]? = some oi) (hsel : ∀ (j : Nat) (o : Oper) cs b, ops[j]? = some o → o.op ≠ .select cs b)
    (hs : Region.sinkB md ops n = true) (hc : Region.chainB md ops n = true) (hn : n < ops.size) (hin : i < n)
    (hdone : ∀ listed a, L listed a → ∀ j ∈ Region.ready md ops listed, n ≤ j) :
    ∀ (f : Nat) (listed : Array Bool) (a : Act), HeadInv md ops n listed →
      (∀ j oj, ops[j]? = some oj → j ≠ i → listed.getD j true = false → (∀ e ∈ oj.after, Region.binds md e = true → e.on ≠ i) → oi.apart ops oj = true) →
      i ∈ Region.ready md ops listed → YieldsIn P ops D oi v a →
      wpAnyLQ P md ops D n L f (listed.setIfInBounds i true) (a.put oi.dst v) → wpAnyLQ P md ops D n L (f + 1) listed a := by
  intro f
  induction f with
  | zero =>
    intro listed a inv _ hr hy H
    have hun := (mem_ready.1 hr).1
    refine ⟨fun h => (by rw [h] at hr; cases hr), fun j hj => ?_⟩
    have hjn : j < n := by
      rcases Nat.lt_or_ge j n with h | h
      · exact h
      exact absurd hj (tail_waits hs hc hn inv _ i rfl hin hun j h)
    refine ⟨hjn, ?_⟩
    by_cases hji : j = i
    · subst hji; exact hy.qOp hi H
    have := hdone _ _ H j (ready_mono hj hji)
    omega
  | succ f ih =>
    intro listed a inv hfree hr hy H
    have hun := (mem_ready.1 hr).1
    refine ⟨fun h => (by rw [h] at hr; cases hr), fun j hj => ?_⟩
    have hjn : j < n := by
      rcases Nat.lt_or_ge j n with h | h
      · exact h
      exact absurd hj (tail_waits hs hc hn inv _ i rfl hin hun j h)
    refine ⟨hjn, ?_⟩
    by_cases hji : j = i
    · subst hji; exact hy.qOp hi H
    have h1 := (H.2 j (ready_mono hj hji)).2
    obtain ⟨hjun, oj, hoj, hall⟩ := mem_ready.1 hj
    have hnot : ∀ e ∈ oj.after, Region.binds md e = true → e.on ≠ i := fun e he hb heq => by
      have h1 := hall e he hb
      rw [heq, getD_both hun] at h1
      cases h1
    have h2 := qOp_put hoj (hfree j oj hoj hji hjun hnot) (fun cs b => hsel i oi cs b hi) (fun cs b => hsel j oj cs b hoj) hy h1
    have hfree' : ∀ k ok, ops[k]? = some ok → k ≠ i → (listed.setIfInBounds j true).getD k true = false →
        (∀ e ∈ ok.after, Region.binds md e = true → e.on ≠ i) → oi.apart ops ok = true := fun k ok hk hki hun hno => by
      refine hfree k ok hk hki ?_ hno
      by_cases hjk : j = k
      · subst hjk; exact hjun
      rw [getD_set_ne true hjk] at hun; exact hun
    refine qOp_mono (fun a' h3 => ih (listed.setIfInBounds j true) a' (inv.set hj hjn) hfree' (ready_mono hr (Ne.symm hji)) h3.1 ?_) h2
    rw [Array.setIfInBounds_comm _ _ hji]
    exact h3.2
theorem wpAnyLQ_lex {n g : Nat} {Lq : Act → Prop} (hsel : Region.noSelect ops = true) (hs : Region.sinkB md ops n = true) (hc : Region.chainB md ops n = true) (hn : n < ops.size) :
    ∀ (l : List Oper) (k : Nat) (listed : Array Bool) (a : Act), (∀ j, j < l.length → l[j]? = ops[k + j]?) → k + l.length = n → HeadInv md ops n listed →
    Region.lexHead md ops g l.length k listed = true → wpQuiet P ops D Lq l a →
    wpAnyLQ P md ops D n (fun listed' a' => Region.seqB md ops g n listed' = true ∧ Lq a') l.length listed a
  | [], k, listed, a, _, hk, _, hB, h => by
    have : k = n := by simpa using hk
    subst this
    exact ⟨by simpa [Region.lexHead] using hB, h⟩
  | o :: l, k, listed, a, hl, hk, inv, hB, h => by
    have h0 : ops[k]? = some o := by simpa using (hl 0 (by simp)).symm
    simp only [List.length_cons, Region.lexHead, Bool.and_eq_true] at hB
    obtain ⟨⟨hr, hf⟩, hB'⟩ := hB
    have hkn : k < n := by simp only [List.length_cons] at hk; omega
    have hr' : k ∈ Region.ready md ops listed := by simpa using hr
    have hst : qOp P ops D k (wpQuiet P ops D Lq l) a := by unfold qOp; simp only [h0]; exact h
    obtain ⟨v, hy, hK⟩ := yieldsIn_of_qOp h0 hst
    exact wpAnyLQ_first h0 (Region.noSelect_spec hsel) hs hc hn hkn (fun listed' a' hL => seqB_ready hL.1) l.length listed a inv (Region.free_spec h0 hf) hr' hy
      (wpAnyLQ_lex hsel hs hc hn l (k + 1) _ _ (fun j hj => by have := hl (j + 1) (by simp; omega); simpa [Nat.add_assoc, Nat.add_comm 1 j] using this) (by simp only [List.length_cons] at hk; omega) (inv.set hr' hkn) hB' hK)
theorem wp_region_quiet_tail {id : Nat} {Q : Exit → Act → World → Prop} {a : Act} {w : World} {l : List Oper} (n : Nat) (hm : P.follows .mixedOrders = true) (hB : Region.lexTailB .any l.toArray n = true) (hD : D w.drew)
    (h : wpQuiet P l.toArray D (fun a' => ∀ w', D w' → wpList P l.toArray Q (l.drop n) a' w') (l.take n) a) : (Code.region id l.toArray true).wp P Q a w := by
  simp only [Region.lexTailB, Bool.and_eq_true, decide_eq_true_eq] at hB
  obtain ⟨⟨⟨⟨hsel, hn⟩, hs⟩, hc⟩, hlex⟩ := hB
  have hn' : n < l.length := by simpa using hn
  have htl : (l.take n).length = n := by simp; omega
  have hdl : (l.drop n).length = l.toArray.size - n := by simp
  have inv0 : HeadInv .any l.toArray n (Array.replicate l.toArray.size false) :=
    ⟨by simp, fun j oj _ hl => (by rw [getD_replicate_false] at hl; cases hl), fun t _ ht => getD_in (by simpa using ht) (getD_replicate_false _ _)⟩
  have H := wpAnyLQ_lex (md := .any) (g := l.toArray.size - n) hsel hs hc hn (l.take n) 0 _ a (fun j hj => by
    have hj' : j < n := by rw [htl] at hj; exact hj
    simp [hj']) (by simpa using htl) inv0 (by rw [htl]; exact hlex) h
  refine wp_region_any hm ?_
  have := wpAny_of_headQ (Q' := Q) (g := l.toArray.size - n) (fun listed a' w' hw' hL => by
    have h2 := wpAny_of_seq (Q' := Q) (l.drop n) n listed a' w' (fun j => by simp) (by rw [hdl]; exact hL.1) (hL.2 w' hw')
    rwa [hdl] at h2) (l.take n).length (Array.replicate l.toArray.size false) a w.drew hD H
  have e : (l.take n).length + (l.toArray.size - n) = l.toArray.size := by rw [htl]; simp; omega
  rw [e] at this
  exact this
end
section
variable {C : Cx} {Q : Exit → Sta → Prop} {σ : Sta}
theorem AW.quiet_tail {i : Nat} {l : List Oper} (n : Nat) {l1 l2 : List Oper} (hm : C.P.follows .mixedOrders = true) (hB : Region.lexTailB .any l.toArray n = true) (h1 : l.take n = l1) (h2 : l.drop n = l2) (h : AQ C l.toArray (AWL C l.toArray Q l2) l1 σ) : AW C (.region i l.toArray true) Q σ := by
  subst h1
  subst h2
  intro a w ⟨hd, hn, S, vals, bss, hme, he⟩
  have hk : Kept (fun _ => True) w w.drew := (Kept.refl _ _).drew
  refine wp_region_quiet_tail (D := fun w' => Kept (fun _ => True) w w') n hm hB hk ?_
  refine wpQuiet_mono ?_ _ _ (h a w S vals bss ⟨hd, hn, hme, he⟩)
  rintro a' ⟨σ', hs, hq⟩ w' hk'
  exact hq a' w' (hs.grow hk').st
theorem AW.drawn {i n : Nat} {l : List Oper} (hm : C.P.follows .mixedOrders = true) (hn : l.toArray.size = n) (h : AWAny C l.toArray Q n (Array.replicate n false) σ) : AW C (.region i l.toArray true) Q σ := by
  subst hn
  exact AW.region_any hm h
end
section
variable {C : Cx} {Q : Exit → Sta → Prop} {ops : Array Oper} {fuel : Nat} {listed : Array Bool} {o : Oper} {env : Nat → AV} {T T' : Sl} {n : Nat} {x : AV}
theorem op_valQ {f : FuncId} {p : Operand} {args : Array Operand} {ts : Array TypeId} {b : Bool} {ev : Operand → AV} {xs : List AV} {y : Value} (ho : o.op = .call { callee := .value p, args := args, argTypes := ts }) (hp : ev p = .v (.func (.func f) #[] #[])) (hf : Enters C.P f) (hsp : Fn C.P f [] xs [.v y] []) (hv : RL (View T b) (args.toList.map ev) xs) (hx : y.oneCell' = true) : OpQ C o ev T (.v y) := by
  intro a w S vals bss hm h
  refine ⟨y, fun w' hk => ?_, TmpOK.v_ hx⟩
  have hfv : a.eval p = .func (.func f) #[] #[] := by
    have := h p (by simp [ho, Op.operands, Call.operands])
    rw [hp] at this
    exact (show Rep C.P S w [] _ _ from this).v_inv.1
  have hargs : ∀ y ∈ args, TmpOK C.P S w' T vals (a.eval y) (ev y) := fun y hy => TmpOK.follows (Follows.kept hk (fun _ _ _ => trivial) fun _ h => h) (h y (by simp [ho, Op.operands, Call.operands]; exact .inr hy))
  have hc := hsp w' (lent b S bss) [] [] _ (came0 (hm.grow hk) hv hargs)
  have hrun : (execOp a.eval o).run C.P w' = .ok (.enter f (args.toList.map a.eval).toArray) w' := by
    have e1 : (args.map a.eval) = (args.toList.map a.eval).toArray := by apply Array.toList_inj.1; simp
    simp only [execOp, ho, resolve, hfv, Deferred.ofValue, Sem.run_bind, Sem.run_pure, Result.andThen_ok, invoke]
    rw [← e1]
    simpa using hf _ w'
  unfold Oper.quietAt
  rw [hrun]
  refine ⟨rfl, hc.mono ?_⟩
  rintro e w'' ⟨us, ys', outs, bsr, bss', rfl, went, rfl, rfl⟩
  have hk2 : Kept (fun _ => True) w' w'' := went.kept.mono fun k _ _ ⟨r, bs, h, _⟩ => by simp at h
  refine ⟨?_, hk.trans hk2⟩
  match us, went.nu with
  | [u], _ =>
    have hr := went.res 0 u (.v y) (bsr[0]'(by rw [went.nr]; simp)) rfl rfl (List.getElem?_eq_getElem _)
    rcases hr with h | ⟨_, h⟩
    · rw [retV, h.v_inv.1]
    rw [retV, (show Rep C.P _ w'' [] u (.v y) from h).v_inv.1]
/-- A quiet operation, in a region in order. -/
theorem OpQ.j {ev : Operand → AV} (h : OpQ C o ev T x) : OpJ C o ev T x T := by
  intro a w S vals bss hm ho K hK Q
  obtain ⟨v, h1, h2⟩ := h a w S vals bss hm ho
  have := h1 w (Kept.refl _ _)
  refine Oper.wp_of_quiet (C := fun w'' => Kept (fun _ => True) w w'') (K := fun a' => a' = a.put o.dst v) (Kept.refl _ _) ?_ ⟨v, fun w' hw' => h1 w' hw', rfl⟩
  rintro a' w' hk rfl
  exact hK v w' S vals bss (hm.grow hk) (Follows.kept hk (fun _ _ _ => trivial) fun _ h => h) (TmpOK.follows (Follows.kept hk (fun _ _ _ => trivial) fun _ h => h) h2)
end
end Go.Proofs.YtfmnaigedgmhoaaGreatDoor
namespace Go.Proofs.YtfmnaigedgmhoaaGreatDoor
open Go.RowKit
set_option linter.unusedSimpArgs false
set_option linter.unusedVariables false
theorem OpJ.congr {C : Cx} {o : Oper} {ev ev' : Operand → AV} {T T' : Sl} {x : AV} (h : OpJ C o ev T x T') (he : ∀ y ∈ o.op.operands, ev' y = ev y) : OpJ C o ev' T x T' :=
  fun a w S vals bss hm ho => h a w S vals bss hm fun y hy => by rw [← he y hy]; exact ho y hy
theorem evA_put {env : Nat → AV} {dst : Option Tmp} {x : AV} {o : Oper} {ops : Array Oper} (h : ∀ d, dst = some d → d ∉ o.looksAt ops) : ∀ y ∈ o.op.operands, evA (putE env dst x) y = evA env y := fun y hy => by
  cases y with
  | tmp t =>
    cases dst with
    | none => rfl
    | some d =>
      show upd env d x t = env t
      unfold upd
      rw [if_neg]
      intro e
      subst e
      exact h _ rfl (List.mem_append_left _ (List.mem_filterMap.2 ⟨.tmp t, by simpa using hy, rfl⟩))
  | _ => rfl
theorem putE_comm {env : Nat → AV} {d d' : Option Tmp} {x y : AV} (h : ∀ t, d = some t → d' ≠ some t) : putE (putE env d x) d' y = putE (putE env d' y) d x := by
  cases d with
  | none => rfl
  | some t =>
    cases d' with
    | none => rfl
    | some t' =>
      have hne : t ≠ t' := fun e => h t rfl (by rw [e])
      funext q
      show upd (upd env t x) t' y q = upd (upd env t' y) t x q
      unfold upd
      by_cases h1 : q = t'
      · rw [if_pos h1, if_neg (fun e => hne (e.symm.trans h1)), if_pos h1]
      rw [if_neg h1, if_neg h1]
section
variable {C : Cx} {ops : Array Oper} {Q : Exit → Sta → Prop} {Ok : Sl → Prop}
/-- An operation that waits for all others. -/
def lastB (ops : Array Oper) (o : Oper) (i : Nat) : Bool := (List.range ops.size).all fun q => q == i || o.after.any fun e => Region.binds .any e && e.on == q
theorem lastB_on {o : Oper} {i q : Nat} (h : lastB ops o i = true) (hq : q < ops.size) (hne : q ≠ i) : ∃ e ∈ o.after, Region.binds .any e = true ∧ e.on = q := by
  unfold lastB at h
  have := List.all_eq_true.1 h q (List.mem_range.2 hq)
  simp only [Bool.or_eq_true, beq_iff_eq, Array.any_eq_true', Bool.and_eq_true] at this
  rcases this with h | ⟨e, he, h1, h2⟩
  · exact absurd h hne
  exact ⟨e, he, h1, h2⟩
def AD (C : Cx) (ops : Array Oper) (Q : Exit → Sta → Prop) (Ok : Sl → Prop) : Nat → Array Bool → Sta → Prop
  | 0, listed, σ => Region.ready .any ops listed = [] ∧ Q .normal σ
  | f + 1, listed, σ => (Region.ready .any ops listed = [] → Q .normal σ) ∧ ∀ i ∈ Region.ready .any ops listed, ∃ o x T', ops[i]? = some o ∧ o.guard = none ∧ opsOk o σ.n = true ∧ OpJ C o (evA σ.env) σ.T x T' ∧ (Ok T' ∨ lastB ops o i = true) ∧ AD C ops Q Ok f (listed.setIfInBounds i true) ⟨putE σ.env o.dst x, T', σ.n⟩
theorem AD.any : ∀ (f : Nat) (listed : Array Bool) (σ : Sta), AD C ops Q Ok f listed σ → AWAny C ops Q f listed σ
  | 0, _, _, h => AWAny.done h.1 h.2
  | f + 1, listed, σ, h => by
    by_cases hr : Region.ready .any ops listed = []
    · exact AWAny.done hr (h.1 hr)
    refine AWAny.all rfl hr fun i hi => ?_
    obtain ⟨o, x, T', h1, h2, h3, h4, _, h6⟩ := h.2 i hi
    exact AWOp.op h1 h2 h3 h4 (AD.any f _ _ h6)
theorem AD.first {i : Nat} {oi : Oper} {x : AV} {n : Nat} {ev0 : Operand → AV} (hi : ops[i]? = some oi) (hg : oi.guard = none) (hok : opsOk oi n = true) (hj : ∀ T', Ok T' → OpJ C oi ev0 T' x T') :
    ∀ (f : Nat) (listed : Array Bool) (env : Nat → AV) (T : Sl),
      (∀ j oj, ops[j]? = some oj → j ≠ i → listed.getD j true = false → (∀ e ∈ oj.after, Region.binds .any e = true → e.on ≠ i) → oi.apart ops oj = true) →
      i ∈ Region.ready .any ops listed → (∀ y ∈ oi.op.operands, evA env y = ev0 y) → Ok T →
      AD C ops Q Ok f (listed.setIfInBounds i true) ⟨putE env oi.dst x, T, n⟩ → AD C ops Q Ok (f + 1) listed ⟨env, T, n⟩ := by
  intro f
  induction f with
  | zero =>
    intro listed env T _ hr hev hT H
    refine ⟨fun h => (by rw [h] at hr; cases hr), fun j hjr => ?_⟩
    by_cases hji : j = i
    · subst hji; exact ⟨oi, x, T, hi, hg, hok, (hj T hT).congr hev, .inl hT, H⟩
    have := ready_mono hjr hji
    rw [H.1] at this
    cases this
  | succ f ih =>
    intro listed env T hfree hr hev hT H
    have hun := (mem_ready.1 hr).1
    refine ⟨fun h => (by rw [h] at hr; cases hr), fun j hjr => ?_⟩
    by_cases hji : j = i
    · subst hji; exact ⟨oi, x, T, hi, hg, hok, (hj T hT).congr hev, .inl hT, H⟩
    obtain ⟨oj, y, T', h1, h2, h3, h4, h5, h6⟩ := H.2 j (ready_mono hjr hji)
    obtain ⟨hjun, oj', hoj, hall⟩ := mem_ready.1 hjr
    have : oj' = oj := Option.some.inj (hoj.symm.trans h1)
    subst this
    have hnot : ∀ e ∈ oj'.after, Region.binds .any e = true → e.on ≠ i := fun e he hb heq => by
      have h1 := hall e he hb
      rw [heq, getD_both hun] at h1
      cases h1
    replace h5 : Ok T' := by
      rcases h5 with h5 | h5
      · exact h5
      obtain ⟨e, he, hb, heq⟩ := lastB_on h5 (Array.getElem?_eq_some_iff.1 hi).1 (Ne.symm hji)
      exact absurd heq (hnot e he hb)
    obtain ⟨a1, a2, a3⟩ := Oper.apart_spec (hfree j oj' hoj hji hjun hnot)
    have hfree' : ∀ k ok, ops[k]? = some ok → k ≠ i → (listed.setIfInBounds j true).getD k true = false → (∀ e ∈ ok.after, Region.binds .any e = true → e.on ≠ i) → oi.apart ops ok = true := fun k ok hk hki hun hno => by
      refine hfree k ok hk hki ?_ hno
      by_cases hjk : j = k
      · subst hjk; exact hjun
      rw [getD_set_ne true hjk] at hun; exact hun
    refine ⟨oj', y, T', h1, h2, h3, h4.congr fun q hq => (evA_put a1 q hq).symm, .inl h5, ?_⟩
    refine ih _ _ _ hfree' (ready_mono hr (Ne.symm hji)) (fun q hq => (evA_put a3 q hq).trans (hev q hq)) h5 ?_
    rw [Array.setIfInBounds_comm _ _ hji]
    rw [putE_comm (fun t ht ht' => a2 t ht ht')] at h6
    exact h6
/-- Slots that stay as they are. -/
def FixL : List (Nat × Nat × AV) → Sl → Prop
  | [], _ => True
  | p :: l, T => T.slots[p.1]? = some p.2 ∧ FixL l T
theorem AW.ad {σ : Sta} {i n : Nat} {l : List Oper} (fx : List (Nat × Nat × AV)) (hm : C.P.follows .mixedOrders = true) (hn : l.toArray.size = n) (h : AD C l.toArray Q (FixL fx) n (Array.replicate n false) σ) : AW C (.region i l.toArray true) Q σ := by
  subst hn
  exact AW.region_any hm (AD.any _ _ _ h)
end
section
variable {C : Cx} {Q : Exit → Sta → Prop} {ops : Array Oper} {fx : List (Nat × Nat × AV)} {fuel : Nat} {listed : Array Bool} {o : Oper} {env : Nat → AV} {T T' : Sl} {n : Nat} {x : AV}
theorem atL {ops : Array Oper} {i : Nat} {o : Oper} (h : ops.toList[i]? = some o) : ops[i]? = some o := by rw [← Array.getElem?_toList]; exact h
theorem adF (i : Nat) (hi : ops.toList[i]? = some o) (hj : ∀ T', FixL fx T' → OpJ C o (evA env) T' x T') (hT : FixL fx T) (hr : (Region.ready .any ops listed).contains i = true) (hf : Region.free .any ops listed i = true) (h : AD C ops Q (FixL fx) fuel (listed.setIfInBounds i true) ⟨putE env o.dst x, T, n⟩)
    (hg : o.guard = none := by rfl) (ho : opsOk o n = true := by rfl) : AD C ops Q (FixL fx) (fuel + 1) listed ⟨env, T, n⟩ :=
  AD.first (atL hi) hg ho hj fuel listed env T (Region.free_spec (atL hi) hf) (by simpa using hr) (fun _ _ => rfl) hT h
theorem adP (i : Nat) (hi : ops.toList[i]? = some o) (hj : ∀ T', FixL fx T' → OpP C o (evA env) T' x) (hT : FixL fx T) (hr : (Region.ready .any ops listed).contains i = true) (hf : Region.free .any ops listed i = true) (h : AD C ops Q (FixL fx) fuel (listed.setIfInBounds i true) ⟨putE env o.dst x, T, n⟩)
    (hg : o.guard = none := by rfl) (ho : opsOk o n = true := by rfl) : AD C ops Q (FixL fx) (fuel + 1) listed ⟨env, T, n⟩ := adF i hi (fun T' h => (hj T' h).j) hT hr hf h hg ho
theorem adR (i : Nat) (hi : ops.toList[i]? = some o) (hj : ∀ T', FixL fx T' → OpR C o (evA env) T' x) (hT : FixL fx T) (hr : (Region.ready .any ops listed).contains i = true) (hf : Region.free .any ops listed i = true) (h : AD C ops Q (FixL fx) fuel (listed.setIfInBounds i true) ⟨putE env o.dst x, T, n⟩)
    (hg : o.guard = none := by rfl) (ho : opsOk o n = true := by rfl) : AD C ops Q (FixL fx) (fuel + 1) listed ⟨env, T, n⟩ := adF i hi (fun T' h => (hj T' h).j) hT hr hf h hg ho
theorem adQ (i : Nat) (hi : ops.toList[i]? = some o) (hj : ∀ T', FixL fx T' → OpQ C o (evA env) T' x) (hT : FixL fx T) (hr : (Region.ready .any ops listed).contains i = true) (hf : Region.free .any ops listed i = true) (h : AD C ops Q (FixL fx) fuel (listed.setIfInBounds i true) ⟨putE env o.dst x, T, n⟩)
    (hg : o.guard = none := by rfl) (ho : opsOk o n = true := by rfl) : AD C ops Q (FixL fx) (fuel + 1) listed ⟨env, T, n⟩ := adF i hi (fun T' h => (hj T' h).j) hT hr hf h hg ho
/-- The only operation that may come up. -/
theorem adJ (i : Nat) (hi : ops.toList[i]? = some o) (hj : OpJ C o (evA env) T x T') (hr : Region.ready .any ops listed = [i]) (hT : FixL fx T') (h : AD C ops Q (FixL fx) fuel (listed.setIfInBounds i true) ⟨putE env o.dst x, T', n⟩) (hg : o.guard = none := by rfl) (ho : opsOk o n = true := by rfl) : AD C ops Q (FixL fx) (fuel + 1) listed ⟨env, T, n⟩ :=
  ⟨fun h0 => (by rw [hr] at h0; cases h0), fun j hj' => by
    rw [hr] at hj'
    obtain rfl : j = i := by simpa using hj'
    exact ⟨o, x, T', atL hi, hg, ho, hj, .inl hT, h⟩⟩
theorem adDone (hr : Region.ready .any ops listed = []) (h : Q .normal ⟨env, T, n⟩) : AD C ops Q (FixL fx) fuel listed ⟨env, T, n⟩ := by
  cases fuel with
  | zero => exact ⟨hr, h⟩
  | succ f => exact ⟨fun _ => h, fun i hi => by rw [hr] at hi; cases hi⟩
end
end Go.Proofs.YtfmnaigedgmhoaaGreatDoor
namespace Go.Proofs.YtfmnaigedgmhoaaGreatDoor
open Go.RowKit
set_option linter.unusedSimpArgs false
set_option linter.unusedVariables false
section
variable {C : Cx} {o : Oper} {ev : Operand → AV} {T : Sl} {t yt : TypeId} {p q : Operand} {k k' : IntKind} {x y z : Int}
theorem op_shr (ho : o.op = .binOp .shr t p q yt) (hp : ev p = .v (.int k x)) (hq : ev q = .v (.int k' y)) (h0 : 0 ≤ y) (hz : x.fdiv (2 ^ (min y.toNat k.bits)) = z) : OpP C o ev T (.v (.int k z)) :=
  op_bin ho hp hq (fun w => by unfold eqGuard; simp) (fun w => by simp [binOp, Op.shift, hz, show ¬ y < 0 by omega]) rfl
end
end Go.Proofs.YtfmnaigedgmhoaaGreatDoor
namespace Go.Proofs.YtfmnaigedgmhoaaGreatDoor
open Go.RowKit
set_option linter.unusedSimpArgs false
set_option linter.unusedVariables false
inductive Le1 : AV → AV → Prop
  | same {x} : Le1 x x
  | nil : Le1 (.v (.slice none 0 0)) (.ro [])
theorem Le1.rep {P : Program} {S : Nat → Prop} {w : World} {bs : List Nat} {u : Value} {x y : AV} (h : Le1 x y) (hr : Rep P S w bs u x) : Rep P S w bs u y := by
  cases h with
  | same => exact hr
  | nil =>
    obtain ⟨rfl, rfl, _⟩ := hr.v_inv
    exact rep_ro_nil
section
variable {C : Cx} {σ : Sta}
theorem Gh.slot {e : TypeId} {es es' : List (List AV)} {r k : Nat} (hT : σ.T.slots[r]? = some (k, .own e es)) (hl : es'.map List.length = es.map List.length) (hle : RL Le1 es.flatten es'.flatten) : Gh C σ ⟨σ.env, ⟨σ.T.slots.set r (k, .own e es'), σ.T.ep⟩, σ.n⟩ := by
  intro a w ⟨hd, hn, S, vals, bss, hm, he⟩
  obtain ⟨v, bs, hv, hb, hrep⟩ := hm.slot hT
  have hlen : es'.length = es.length := by have := congrArg List.length hl; simpa using this
  have hrep' : Rep C.P S w bs v (.own e es') := by
    obtain ⟨us, sz, bss', rfl, hi, hsz, hown, hul, hbl, hc⟩ := hrep.own_inv
    refine .own hi (fun x hx => ?_) (by rw [hlen]; exact hown) (by rw [hul]; exact hle.1) hbl fun i u x b h1 h2 h3 => ?_
    · have h1 : x.length ∈ es'.map List.length := List.mem_map_of_mem hx
      rw [hl] at h1
      obtain ⟨y, hy, h2⟩ := List.mem_map.1 h1
      rw [← h2]; exact hsz y hy
    have hlt : i < es.flatten.length := by rw [hle.1]; exact (List.getElem?_eq_some_iff.1 h2).1
    have h4 := List.getElem?_eq_getElem hlt
    exact (hle.2 i _ x h4 h2).rep (hc i u _ b h1 h4 h3)
  obtain ⟨hm', hf⟩ := hm.set hT hv hb (Kept.refl _ _) hrep' (hm.nodup r bs hb) (fun b h => .inl h) (.inl ⟨rfl, rfl, rfl, fun e' es2 h => (by injection h with h1 h2; subst h1; subst h2; exact ⟨es, rfl, hlen.symm⟩), fun b ks h => (by cases h)⟩)
  exact ⟨hd, hn, S, _, _, hm', fun t ht => TmpOK.follows hf (he t ht)⟩
theorem Gh.tmp {cs cs' : List AV} (t : Nat) (ht : t < σ.n) (hv : σ.env t = .agg cs) (hle : RL Le1 cs cs') : Gh C σ ⟨upd σ.env t (.agg cs'), σ.T, σ.n⟩ := by
  intro a w ⟨hd, hn, S, vals, bss, hm, he⟩
  refine ⟨hd, hn, S, vals, bss, hm, fun q hq => ?_⟩
  show TmpOK _ _ _ _ _ _ (upd σ.env t _ q)
  unfold upd
  by_cases h : q = t
  · subst h
    rw [if_pos rfl]
    have h1 := he q hq
    rw [hv] at h1
    obtain ⟨us, e, rl⟩ := h1
    refine ⟨us, e, rl.1.trans hle.1, fun i u x hu hx => ?_⟩
    have hlt : i < cs.length := by rw [hle.1]; exact (List.getElem?_eq_some_iff.1 hx).1
    have h4 := List.getElem?_eq_getElem hlt
    have h5 := rl.2 i u _ hu h4
    have h6 := hle.2 i _ x h4 hx
    generalize cs[i] = y at h5 h6
    cases h6 with
    | same => exact h5
    | nil => exact Le1.rep .nil (show Rep C.P S w [] u _ from h5)
  rw [if_neg h]; exact he q hq
end
end Go.Proofs.YtfmnaigedgmhoaaGreatDoor
namespace Go.Proofs.YtfmnaigedgmhoaaGreatDoor
open Go.RowKit
set_option linter.unusedSimpArgs false
set_option linter.unusedVariables false
/-- Where the fields of a struct lie, and how long they are. -/
def plIs (P : Program) (t : TypeId) (pl : List (Nat × Nat)) : Prop := ∃ fs, P.underlying t = some (.struct fs) ∧ fs.toList.mapM (fun f => (P.info? f.type).map fun i => (f.offset, i.size)) = some pl
theorem op_build2 {C : Cx} {o : Oper} {ev : Operand → AV} {T : Sl} {t : TypeId} {n b : Nat} {z : Value} {ps : Array (Nat × Operand)} {pl : List (Nat × Nat)} (ho : o.op = .build t ps) (hpl : plIs C.P t pl) (hz : zeroIs C.P t z n b) (rows : List (Nat × List AV))
    (hp : ps.toList.map (fun p => (p.1, rowR (ev p.2))) = rows.map (fun p => (p.1, some p.2))) (hr : rows.all (fun p => match pl[p.1]? with | some (off, sz) => p.2.length == sz && off + sz ≤ n | none => false) = true) {xs : List AV} (hx : rows.foldl (fun cs p => splice cs ((pl[p.1]?).getD (0, 0)).1 p.2) (z.cells.toList.map .v) = xs) :
    OpP C o ev T (.agg xs) := by
  obtain ⟨fs, h1, h2⟩ := hpl
  exact op_build ho rows h1 h2 hz hp hr hx
end Go.Proofs.YtfmnaigedgmhoaaGreatDoor
namespace Go.Proofs.YtfmnaigedgmhoaaGreatDoor
open Go.RowKit
set_option linter.unusedSimpArgs false
set_option linter.unusedVariables false
section
variable {C : Cx} {Q : Exit → Sta → Prop} {K : Sta → Prop} {ops : Array Oper} {o : Oper} {l : List Oper} {env : Nat → AV} {T T' : Sl} {n : Nat} {x : AV}
def skipB (ops : Array Oper) (g : Nat) (b : Bool) (c : Nat) (W : List Nat) : List Nat → List Oper → Bool
  | _, [] => true
  | dead, o :: l => (o.guard == some (g, b) || (match o.guard with | some (g2, _) => (match (ops[g2]?).bind (·.dst) with | some d2 => dead.contains d2 | none => false) | none => false)) && (match o.dst with | some t => W.contains t && t != c | none => true) && skipB ops g b c W (o.dst.toList ++ dead) l
theorem skipB_dst {g c : Nat} {b : Bool} {W : List Nat} : ∀ {seg : List Oper} {dead : List Nat}, skipB ops g b c W dead seg = true → ∀ o ∈ seg, ∀ t, o.dst = some t → W.contains t = true ∧ t ≠ c
  | [], _, _, _, h => by cases h
  | p :: seg, dead, h, o, ho => by
    unfold skipB at h
    simp only [Bool.and_eq_true] at h
    rcases List.mem_cons.1 ho with rfl | ho
    · intro t ht
      have h2 := h.1.2
      rw [ht] at h2
      simpa using h2
    exact skipB_dst h.2 o ho
theorem wpQuiet_skip2 {P : Program} {D : World → Prop} {Q : Act → Prop} {g d : Nat} {W : List Nat} {o' : Oper} {b : Bool} (ho' : ops[g]? = some o') (hd : o'.dst = some d) : ∀ (seg : List Oper) (dead : List Nat) (a : Act), d < a.tmps.size → a.eval (.tmp d) = .bool b → skipB ops g (!b) d W dead seg = true → (∀ t ∈ dead, a.tmps.getD t undef = undef) →
    (∀ a', a'.defers = a.defers → a'.tmps.size = a.tmps.size → (∀ t, (∀ o ∈ seg, o.dst ≠ some t) → a'.tmps.getD t undef = a.tmps.getD t undef) → Q a') → wpQuiet P ops D Q seg a
  | [], _, a, _, _, _, _, h => h a rfl rfl fun _ _ => rfl
  | o :: seg, dead, a, hlt, hb, hs, hdead, h => by
    have hs0 := hs
    unfold skipB at hs
    simp only [Bool.and_eq_true, Bool.or_eq_true, beq_iff_eq] at hs
    obtain ⟨⟨hg, hdst⟩, hs'⟩ := hs
    have hne : o.dst ≠ some d := fun e => (skipB_dst hs0 o (by simp) d e).2 rfl
    have hw : ¬ Region.wanted o (yielded ops a.tmps) = true := by
      rcases hg with hg | hg
      · simp [Act.eval, hlt] at hb
        simp [Region.wanted, hg, yielded, ho', hd, hlt, hb]
      split at hg
      · rename_i g2 b2 hgd
        split at hg
        · rename_i d2 hd2
          have hm : d2 ∈ dead := by simpa using hg
          have hu := hdead d2 hm
          have e : yielded ops a.tmps g2 = none := by
            obtain ⟨o2, h1, h2⟩ := Option.bind_eq_some_iff.1 hd2
            rcases Nat.lt_or_ge d2 a.tmps.size with h3 | h3
            · simp [h3] at hu
              simp [yielded, h1, h2, h3, hu, undef]
            simp [yielded, h1, h2, h3]
          simp [Region.wanted, hgd, e]
        cases hg
      cases hg
    unfold wpQuiet
    rw [if_neg hw]
    have hsame : (a.put o.dst undef).tmps.getD d undef = a.tmps.getD d undef := by
      rw [Act.getD_put, if_neg]; intro h; exact hne h.1
    refine wpQuiet_skip2 ho' hd seg (o.dst.toList ++ dead) _ (by rw [Act.size_put]; exact hlt) (by show (a.put o.dst undef).tmps.getD d undef = _; rw [hsame]; exact hb) hs' (fun t ht => ?_) fun a' h1 h2 h3 => h a' (by rw [h1, Act.defers_put]) (by rw [h2, Act.size_put]) fun t ht => ?_
    · rw [Act.getD_put]
      split
      · rfl
      rename_i hn'
      rcases List.mem_append.1 ht with h5 | h5
      · have h6 : o.dst = some t := by simpa using h5
        by_cases h7 : t < a.tmps.size
        · exact absurd ⟨h6, h7⟩ hn'
        simp [h7]
      exact hdead t h5
    rw [h3 t fun o h => ht o (by simp [h]), Act.getD_put, if_neg]
    intro hh; exact ht o (by simp) hh.1
/-- a && b: seg reckons b. -/
theorem aqAndN {σ : Sta} (seg rest : List Oper) (p : Oper) (W : List Nat) {g c d pd : Nat} {b : Bool} {b2 : Bool} {o' : Oper} (hl : l = seg ++ p :: rest) (ho' : ops[g]? = some o') (hd : o'.dst = some c) (hc : c < σ.n) (hv : σ.env c = .v (.bool b)) (hs : skipB ops g true c W [] seg = true) (hp : p.op = .pick (.tmp c) (.tmp d) (.const (.bool false))) (hpg : p.guard = none) (hpd : p.dst = some pd) (hdn : d < σ.n) (hcW : W.contains c = false)
    (h1 : b = true → AQ C ops (segK σ W d b2) seg σ) (h2 : AQ C ops K rest ⟨upd (era W σ.env) pd (.v (.bool (b && b2))), σ.T, σ.n⟩) : AQ C ops K l σ := by
  subst hl
  intro a w S vals bss hst
  refine wpQuiet_append _ _ _ ?_
  have hseg := skipB_dst hs
  have hcv := hst.st.bool (c := .tmp c) (t := b) (by simpa [noneBig] using hc) rfl hv
  have fin : ∀ (a' : Act) (σ' : Sta), StI C σ' a' w S vals bss → σ'.T = σ.T → σ'.n = σ.n → (∀ t, W.contains t = false → σ'.env t = σ.env t) → (b = true → a'.eval (.tmp d) = .bool b2) → wpQuiet C.P ops (fun w' => Kept (fun _ => True) w w') (fun a' => ∃ σ', StI C σ' a' w S vals bss ∧ K σ') (p :: rest) a' := by
    intro a' σ' hs' hT hn hW hd'
    have hcv' := hs'.st.bool (c := .tmp c) (t := b) (by simp [noneBig, hn, hc]) rfl (show evA σ'.env (.tmp c) = _ by show σ'.env c = _; rw [hW c hcW]; exact hv)
    unfold wpQuiet
    rw [if_pos (by simp [Region.wanted, hpg])]
    refine ⟨.bool (b && b2), fun w' _ => ?_, ?_⟩
    · unfold Oper.quietAt
      have : (execOp a'.eval p).run C.P w' = .ok (.value (.bool (b && b2))) w' := by
        simp only [execOp, hp, hcv', asBool, Sem.run_bind, Sem.run_pure, Result.andThen_ok]
        cases b
        · rfl
        rw [hd' rfl]; rfl
      rw [this]
      exact ⟨rfl, rfl⟩
    have h3 := (hs'.era (σ' := σ) hT hn W hW).put (d := p.dst) (v := .bool (b && b2)) (x := .v (.bool (b && b2))) (TmpOK.v_ rfl)
    rw [hpd] at h3 ⊢
    exact h2 _ _ _ _ _ h3
  cases b with
  | true =>
    refine wpQuiet_mono ?_ _ _ (h1 rfl a w S vals bss hst)
    rintro a' ⟨σ', hs', e1, e2, e3, e4⟩
    refine fin a' σ' hs' e1 e2 e4 fun _ => ?_
    exact hs'.st.bool (c := .tmp d) (by simp [noneBig, e2, hdn]) rfl e3
  | false =>
    refine wpQuiet_skip2 (b := false) (W := W) ho' hd seg [] a (by rw [hst.2.1]; exact hc) hcv hs (fun t h => by cases h) fun a' q1 q2 q3 => ?_
    have hst' : StI C ⟨era W σ.env, σ.T, σ.n⟩ a' w S vals bss := by
      refine ⟨by rw [q1]; exact hst.1, by rw [q2]; exact hst.2.1, hst.2.2.1, fun t ht => ?_⟩
      show TmpOK _ _ _ _ _ _ (era W σ.env t)
      unfold era
      cases hcc : W.contains t
      · rw [if_neg (by simp), q3 t fun o ho h => by have := (hseg o ho t h).1; rw [hcc] at this; cases this]
        exact hst.2.2.2 t ht
      rw [if_pos rfl]; exact TmpOK.any_
    refine fin a' _ hst' rfl rfl (fun t ht => ?_) (fun h => by cases h)
    show era W σ.env t = σ.env t
    unfold era
    rw [if_neg (by rw [ht]; simp)]
/-- a || b -/
theorem aqOrN {σ : Sta} (seg rest : List Oper) (p : Oper) (W : List Nat) {g c d pd : Nat} {b : Bool} {b2 : Bool} {o' : Oper} (hl : l = seg ++ p :: rest) (ho' : ops[g]? = some o') (hd : o'.dst = some c) (hc : c < σ.n) (hv : σ.env c = .v (.bool b)) (hs : skipB ops g false c W [] seg = true) (hp : p.op = .pick (.tmp c) (.const (.bool true)) (.tmp d)) (hpg : p.guard = none) (hpd : p.dst = some pd) (hdn : d < σ.n) (hcW : W.contains c = false)
    (h1 : b = false → AQ C ops (segK σ W d b2) seg σ) (h2 : AQ C ops K rest ⟨upd (era W σ.env) pd (.v (.bool (b || b2))), σ.T, σ.n⟩) : AQ C ops K l σ := by
  subst hl
  intro a w S vals bss hst
  refine wpQuiet_append _ _ _ ?_
  have hseg := skipB_dst hs
  have hcv := hst.st.bool (c := .tmp c) (t := b) (by simpa [noneBig] using hc) rfl hv
  have fin : ∀ (a' : Act) (σ' : Sta), StI C σ' a' w S vals bss → σ'.T = σ.T → σ'.n = σ.n → (∀ t, W.contains t = false → σ'.env t = σ.env t) → (b = false → a'.eval (.tmp d) = .bool b2) → wpQuiet C.P ops (fun w' => Kept (fun _ => True) w w') (fun a' => ∃ σ', StI C σ' a' w S vals bss ∧ K σ') (p :: rest) a' := by
    intro a' σ' hs' hT hn hW hd'
    have hcv' := hs'.st.bool (c := .tmp c) (t := b) (by simp [noneBig, hn, hc]) rfl (show evA σ'.env (.tmp c) = _ by show σ'.env c = _; rw [hW c hcW]; exact hv)
    unfold wpQuiet
    rw [if_pos (by simp [Region.wanted, hpg])]
    refine ⟨.bool (b || b2), fun w' _ => ?_, ?_⟩
    · unfold Oper.quietAt
      have : (execOp a'.eval p).run C.P w' = .ok (.value (.bool (b || b2))) w' := by
        simp only [execOp, hp, hcv', asBool, Sem.run_bind, Sem.run_pure, Result.andThen_ok]
        cases b
        · rw [hd' rfl]; rfl
        rfl
      rw [this]
      exact ⟨rfl, rfl⟩
    have h3 := (hs'.era (σ' := σ) hT hn W hW).put (d := p.dst) (v := .bool (b || b2)) (x := .v (.bool (b || b2))) (TmpOK.v_ rfl)
    rw [hpd] at h3 ⊢
    exact h2 _ _ _ _ _ h3
  cases b with
  | false =>
    refine wpQuiet_mono ?_ _ _ (h1 rfl a w S vals bss hst)
    rintro a' ⟨σ', hs', e1, e2, e3, e4⟩
    refine fin a' σ' hs' e1 e2 e4 fun _ => ?_
    exact hs'.st.bool (c := .tmp d) (by simp [noneBig, e2, hdn]) rfl e3
  | true =>
    refine wpQuiet_skip2 (b := true) (W := W) ho' hd seg [] a (by rw [hst.2.1]; exact hc) hcv hs (fun t h => by cases h) fun a' q1 q2 q3 => ?_
    have hst' : StI C ⟨era W σ.env, σ.T, σ.n⟩ a' w S vals bss := by
      refine ⟨by rw [q1]; exact hst.1, by rw [q2]; exact hst.2.1, hst.2.2.1, fun t ht => ?_⟩
      show TmpOK _ _ _ _ _ _ (era W σ.env t)
      unfold era
      cases hcc : W.contains t
      · rw [if_neg (by simp), q3 t fun o ho h => by have := (hseg o ho t h).1; rw [hcc] at this; cases this]
        exact hst.2.2.2 t ht
      rw [if_pos rfl]; exact TmpOK.any_
    refine fin a' _ hst' rfl rfl (fun t ht => ?_) (fun h => by cases h)
    show era W σ.env t = σ.env t
    unfold era
    rw [if_neg (by rw [ht]; simp)]
theorem aqAndN' {g c d pd : Nat} {b b2 : Bool} {p : Oper} {rest : List Oper} {o' : Oper} (seg : List Oper) (W : List Nat) (hl : l = seg ++ p :: rest) (hg0 : (match l with | o :: _ => o.guard | [] => none) = some (g, true)) (ho' : ops[g]? = some o') (hd : o'.dst = some c) (hc : Nat.ble (c + 1) n = true) (hv : env c = .v (.bool b)) (hs : skipB ops g true c W [] seg = true) (hp : p.op = .pick (.tmp c) (.tmp d) (.const (.bool false))) (hpg : p.guard = none) (hpd : p.dst = some pd) (hdn : Nat.ble (d + 1) n = true) (hcW : W.contains c = false)
    (h1 : b = true → AQ C ops (segK ⟨env, T, n⟩ W d b2) (seg.map (ung g true)) ⟨env, T, n⟩) (h2 : AQ C ops K rest ⟨upd (era W env) pd (.v (.bool (b && b2))), T, n⟩) : AQ C ops K l ⟨env, T, n⟩ :=
  aqAndN seg rest p W hl ho' hd (Nat.le_of_ble_eq_true hc) hv hs hp hpg hpd (Nat.le_of_ble_eq_true hdn) hcW (fun hb => AQ.ung ho' hd (Nat.le_of_ble_eq_true hc) (by subst hb; exact hv) (fun o ho h => (skipB_dst hs o ho c h).2 rfl) (h1 hb)) h2
theorem aqOrN' {g c d pd : Nat} {b b2 : Bool} {p : Oper} {rest : List Oper} {o' : Oper} (seg : List Oper) (W : List Nat) (hl : l = seg ++ p :: rest) (hg0 : (match l with | o :: _ => o.guard | [] => none) = some (g, false)) (ho' : ops[g]? = some o') (hd : o'.dst = some c) (hc : Nat.ble (c + 1) n = true) (hv : env c = .v (.bool b)) (hs : skipB ops g false c W [] seg = true) (hp : p.op = .pick (.tmp c) (.const (.bool true)) (.tmp d)) (hpg : p.guard = none) (hpd : p.dst = some pd) (hdn : Nat.ble (d + 1) n = true) (hcW : W.contains c = false)
    (h1 : b = false → AQ C ops (segK ⟨env, T, n⟩ W d b2) (seg.map (ung g false)) ⟨env, T, n⟩) (h2 : AQ C ops K rest ⟨upd (era W env) pd (.v (.bool (b || b2))), T, n⟩) : AQ C ops K l ⟨env, T, n⟩ :=
  aqOrN seg rest p W hl ho' hd (Nat.le_of_ble_eq_true hc) hv hs hp hpg hpd (Nat.le_of_ble_eq_true hdn) hcW (fun hb => AQ.ung ho' hd (Nat.le_of_ble_eq_true hc) (by subst hb; exact hv) (fun o ho h => (skipB_dst hs o ho c h).2 rfl) (h1 hb)) h2
end
end Go.Proofs.YtfmnaigedgmhoaaGreatDoor
namespace Go.Proofs.YtfmnaigedgmhoaaGreatDoor
open Go.RowKit
set_option linter.unusedSimpArgs false
set_option linter.unusedVariables false
def FnB (P : Program) (f : FuncId) (xs : List AV) (e : TypeId) (row : List AV) : Prop :=
  ∀ (w : World) (S : Nat → Prop) (vs : List Value), Came P [] xs w S [] [] vs → Calls P f vs.toArray w fun en w' => ∃ g n cap bs, en = .returned (.pointer (some ⟨g, 0, none⟩)) ∧ Kept (fun _ => True) w w' ∧ bs.Nodup ∧ (∀ b ∈ bs, w.heap.size ≤ b) ∧
    Rep P (fun k => S k ∨ (w.heap.size ≤ k ∧ k < w'.heap.size ∧ k ∉ bs)) w' bs (.slice (some ⟨g, 0, none⟩) n cap) (.own e [row])
def RQB (fn : Func) (e : TypeId) (row : List AV) : Exit → Sta → Prop
  | .normal, σ | .ret, σ => ∃ t r k, fn.results.toList = [.tmp t] ∧ t < σ.n ∧ σ.env t = .ptr r k 0 0 ∧ σ.T.slots[r]? = some (k, .own e [row])
  | _, _ => False
theorem FnB.body {P : Program} {f : FuncId} {fn : Func} {c : Code} {xs : List AV} {e : TypeId} {row : List AV} {n sz : Nat} (hf : P.funcs[f]? = some fn) (hb : fn.body = some c) (hnn : fn.ntmps = n) (hn : xs.length ≤ n) (hsz : sizeIs P e sz)
    (h : ∀ S0 own0 v0 w0 gl, AW ⟨P, S0, own0, v0, w0, gl⟩ c (RQB fn e row) ⟨fun t => xs.getD t .any, ⟨[], 1⟩, n⟩) : FnB P f xs e row := by
  subst hnn
  intro w S vs came
  refine calls_of_wp hf hb ?_
  have hvl : vs.length = xs.length := came.args.1
  have hszz : (vs.toArray ++ Array.replicate (fn.ntmps - vs.toArray.size) undef).size = fn.ntmps := by simp; omega
  have gl : Glb P (fun k => S k ∧ k ∉ ([] : List Nat)) w := came.glob.mono fun k _ hk => ⟨hk, by simp⟩
  have hmem : Mem ⟨P, S, [], [], w, gl⟩ ⟨[], 1⟩ S [] [] w :=
    ⟨Kept.refl _ _, fun _ h => h, fun _ h => .inl h, came.lt, rfl, rfl, fun r k x v bs q1 => by simp at q1, fun r bs q => by simp at q, fun r r' bs bs' _ q => by simp at q, fun r bs q => by simp at q, fun r bs q => by simp at q, fun r x q => by simp at q, fun r k x q => by simp at q, by simp⟩
  refine wp_mono (h S [] [] w gl { tmps := vs.toArray ++ Array.replicate (fn.ntmps - vs.toArray.size) undef, defers := [] } w ⟨rfl, hszz, S, [], [], hmem, fun t ht => ?_⟩) ?_
  · by_cases hlt : t < xs.length
    · have hx := List.getElem?_eq_getElem hlt
      obtain ⟨u, hu, hr⟩ := came.args.at_ hx
      have e1 : (vs.toArray ++ Array.replicate (fn.ntmps - vs.toArray.size) undef).getD t undef = u := by
        have hu' : vs.toArray[t]? = some u := by simpa using hu
        rw [Array.getD_eq_getD_getElem?, Array.getElem?_append_left (by simp; omega), hu']
        rfl
      show TmpOK P S w _ _ ((vs.toArray ++ Array.replicate (fn.ntmps - vs.toArray.size) undef).getD t undef) (xs.getD t .any)
      rw [e1, List.getD_eq_getElem?_getD, hx]
      exact hr.tmp
    show TmpOK P S w _ _ ((vs.toArray ++ Array.replicate (fn.ntmps - vs.toArray.size) undef).getD t undef) (xs.getD t .any)
    rw [List.getD_eq_getElem?_getD, List.getElem?_eq_none (by omega)]
    trivial
  intro en a w' hq
  obtain ⟨σ, ⟨hd, hn', Sf, valsf, bssf, hm, he⟩, hrq⟩ := hq
  have main : (∃ t r k, fn.results.toList = [.tmp t] ∧ t < σ.n ∧ σ.env t = .ptr r k 0 0 ∧ σ.T.slots[r]? = some (k, .own e [row])) → a.defers = [] ∧ ∃ v, (results fn a.tmps).run P w' = .ok v w' ∧ ∃ g n cap bs, Ending.returned v = .returned (.pointer (some ⟨g, 0, none⟩)) ∧ Kept (fun _ => True) w w' ∧ bs.Nodup ∧ (∀ b ∈ bs, w.heap.size ≤ b) ∧
      Rep P (fun k => S k ∨ (w.heap.size ≤ k ∧ k < w'.heap.size ∧ k ∉ bs)) w' bs (.slice (some ⟨g, 0, none⟩) n cap) (.own e [row]) := by
    rintro ⟨t, r, k, h1, h2, h3, h4⟩
    have hp := he t h2
    rw [h3] at hp
    obtain ⟨v, bs, hv, hb', hrep⟩ := hm.slot h4
    obtain ⟨_, g, n, cap, rfl, hu⟩ := hp.2.2 e [row] v sz h4 hv hsz
    have hu0 : a.tmps.getD t undef = .pointer (some ⟨g, 0, none⟩) := by rw [hu]; simp
    refine ⟨hd, _, retV_run (us := [a.tmps.getD t undef]) (by rw [h1]; exact mapM_run rfl (by simp)), g, n, cap, bs, by rw [retV, hu0], hm.kept.mono (fun k _ _ h => (by cases h)), hm.nodup r bs hb', fun b hb2 => ?_, hrep.mono fun k _ hk => ?_⟩
    · rcases hm.mine r bs hb' b hb2 with h | h
      · cases h
      exact h
    rcases hm.sub k hk with h | h | h
    · exact .inl h
    · cases h
    exact .inr ⟨h, hm.lt k hk, fun h' => hm.apart r bs hb' k h' hk⟩
  cases en with
  | normal => exact main hrq
  | ret => exact main hrq
  | exit i => exact hrq.elim
  | goto l => exact hrq.elim
  | panic c => exact hrq.elim
  | outgrown => exact hrq.elim
section
variable {C : Cx} {T : Sl} {o : Oper} {ev : Operand → AV}
theorem op_callB {f : FuncId} {args : Array Operand} {ts : Array TypeId} {xs : List AV} {e : TypeId} {row : List AV} (ho : o.op = .call { callee := .value (.func f), args := args, argTypes := ts }) (hf : Enters C.P f) (hsp : FnB C.P f xs e row) (hv : RL (View T false) (args.toList.map ev) xs) :
    OpJ C o ev T (.ptr T.slots.length T.ep 0 0) (pushT T (.own e [row])) := by
  intro a w S vals bss hm h K hK Q
  have hargs : ∀ y ∈ args, TmpOK C.P S w T vals (a.eval y) (ev y) := fun y hy => h y (by simp [ho, Op.operands, Call.operands]; exact .inr hy)
  have hc := hsp w (lent false S bss) _ (came0 hm hv hargs)
  have hrun : (execOp a.eval o).run C.P w = .ok (.enter f (args.toList.map a.eval).toArray) w := by
    have e1 : (args.map a.eval) = (args.toList.map a.eval).toArray := by apply Array.toList_inj.1; simp
    simp only [execOp, ho, resolve, Act.eval, Deferred.ofValue, Sem.run_bind, Sem.run_pure, Result.andThen_ok, invoke]
    rw [← e1]
    simpa using hf _ w
  unfold Oper.wp
  rw [hrun, Oper.upon_enter]
  refine hc.mono ?_
  rintro en w' ⟨g, n, cap, bs, rfl, hk, hnd, hge, hrep⟩
  simp only
  have hS2 : ∀ k, S k → S k ∨ (w.heap.size ≤ k ∧ k < w'.heap.size ∧ k ∉ bs) := fun k h => .inl h
  have hm1 := (hm.grow hk).more (S' := fun k => S k ∨ (w.heap.size ≤ k ∧ k < w'.heap.size ∧ k ∉ bs)) hS2 fun k h => by
    rcases h with h | ⟨h1, h2, h3⟩
    · exact .inl h
    refine .inr ⟨.inr (.inr (by have := hm.kept.size; omega)), h2, fun ⟨r, bs, q1, q2⟩ => ?_⟩
    have := hm.blt q1 k q2; omega
  have hf1 : Follows C.P S w T vals (fun k => S k ∨ (w.heap.size ≤ k ∧ k < w'.heap.size ∧ k ∉ bs)) w' T vals := Follows.kept hk (fun _ _ _ => trivial) hS2
  obtain ⟨hm2, hf2⟩ := hm1.push2 (hrep.mono fun k _ h => h.imp (fun h => h.resolve_right (by simp)) id) hnd fun b hb => by
    have hge := hge b hb
    refine ⟨fun ⟨r, bs, q1, q2⟩ => by have := hm.blt q1 b q2; omega, fun h => ?_, .inr (by have := hm.kept.size; omega)⟩
    rcases h with h | h
    · have := hm.lt b h; omega
    exact h.2.2 hb
  refine hK _ _ _ _ _ hm2 (fun u x h => hf2 u x (hf1 u x h)) ?_
  refine ⟨by simp [pushT], rfl, fun e' es v sz h1 h2 h3 => ?_⟩
  have h1 : (T.slots ++ [(T.ep, AV.own e [row])])[T.slots.length]? = some (T.ep, .own e' es) := h1
  rw [getElem?_snoc, if_neg (by omega), if_pos rfl] at h1
  rw [getElem?_snoc, hm.nv, if_neg (by omega), if_pos rfl] at h2
  injection h1 with h1; injection h1 with _ h1; injection h1 with h1 h4
  injection h2 with h2
  subst h4; subst h2
  exact ⟨by simp, g, n, cap, rfl, by simp⟩
end
theorem Fn.top {P : Program} {f : FuncId} {xs : List AV} (h : Fn P f [] xs [.v (.bool true)] []) (w : World) (vs : List Value) (hargs : RL (AggOK P (fun k => k < w.heap.size) w (insT []) []) vs xs) (hg : Glb P (fun k => k < w.heap.size) w) : Calls P f vs.toArray w fun e w' => e = .returned (.bool true) ∧ Below w.heap.size w w' := by
  refine (h w (fun k => k < w.heap.size) [] [] vs ⟨hg, fun _ h => h, rfl, rfl, by simp, ⟨by simp, by simp⟩, fun b ⟨r, bs, q, _⟩ => by simp at q, hargs⟩).mono ?_
  rintro e w' ⟨us, ys, outs, bsr, bss', rfl, went, rfl, rfl⟩
  have hk : Kept (fun _ => True) w w' := went.kept.mono fun k _ _ ⟨r, bs, h, _⟩ => by simp at h
  refine ⟨?_, hk.below⟩
  match us, went.nu with
  | [u], _ =>
    have hr := went.res 0 u (.v (.bool true)) (bsr[0]'(by rw [went.nr]; simp)) rfl rfl (List.getElem?_eq_getElem _)
    rcases hr with h | ⟨_, h⟩
    · rw [retV, h.v_inv.1]
    rw [retV, (show Rep P _ w' [] u (.v (.bool true)) from h).v_inv.1]
end Go.Proofs.YtfmnaigedgmhoaaGreatDoor
namespace Go.Proofs.YtfmnaigedgmhoaaGreatDoor
open Go.RowKit
set_option linter.unusedSimpArgs false
set_option linter.unusedVariables false
def notOwn : AV → Bool
  | .own _ _ => false
  | _ => true
theorem unp_id : ∀ (ys : List AV) (T : Sl), ys.all notOwn = true → unp ys T = (ys, T)
  | [], T, _ => rfl
  | y :: ys, T, h => by
    rw [List.all_cons, Bool.and_eq_true] at h
    have e : unp (y :: ys) T = (y :: (unp ys T).1, (unp ys T).2) := by
      cases y <;> first | rfl | cases h.1
    rw [e, unp_id ys T h.2]
/-- A call that leaves the slots as they are. -/
theorem op_callS {C : Cx} {o : Oper} {ev : Operand → AV} {T : Sl} {f : FuncId} {args : Array Operand} {ts : Array TypeId} {xs ys : List AV} (ho : o.op = .call { callee := .value (.func f), args := args, argTypes := ts }) (hf : Enters C.P f) (hsp : Fn C.P f [] xs ys []) (hv : RL (View T false) (args.toList.map ev) xs)
    (hn : ys.all nrefA = true) (hno : ys.all notOwn = true) {x : AV} (hx : packR ys = x) : OpJ C o ev T x T :=
  op_call (b := false) ho hf hsp hv hn (fun h => by cases h) (by rw [unp_id ys T hno]; exact hx) (by rw [unp_id ys T hno])
end Go.Proofs.YtfmnaigedgmhoaaGreatDoor
namespace Go.Proofs.YtfmnaigedgmhoaaGreatDoor
open Go.RowKit
set_option linter.unusedSimpArgs false
set_option linter.unusedVariables false
theorem lcS : (∀ x, ldc (.v x) = .v x) ∧ (∀ x, ldc (.ro x) = .ro x) ∧ (∀ x, ldc (.rof x) = .rof x) ∧ (∀ x, ldc (.rop x) = .rop x) ∧ (∀ e x, ldc (.own e x) = .sln x.length) ∧ (∀ n, ldc (.sln n) = .sln n) ∧ ldc .any = .any ∧
    (∀ x, stc (.v x) = .v x) ∧ (∀ x, stc (.ro x) = .ro x) ∧ (∀ x, stc (.rof x) = .rof x) ∧ (∀ x, stc (.rop x) = .rop x) ∧ (∀ n, stc (.sln n) = .sln n) ∧ stc .any = .any ∧ (∀ a b c d, stc (.sl a b c d) = .any) ∧ (∀ a b c d, stc (.ptr a b c d) = .any) :=
  ⟨fun _ => rfl, fun _ => rfl, fun _ => rfl, fun _ => rfl, fun _ _ => rfl, fun _ => rfl, rfl, fun _ => rfl, fun _ => rfl, fun _ => rfl, fun _ => rfl, fun _ => rfl, rfl, fun _ _ _ _ => rfl, fun _ _ _ _ => rfl⟩
theorem evS : (∀ (env : Nat → AV) t, evA env (.tmp t) = env t) ∧ (∀ (env : Nat → AV) k n, evA env (.const (.int k n)) = .v (.int k n)) ∧ (∀ (env : Nat → AV) b, evA env (.const (.bool b)) = .v (.bool b)) ∧ (∀ (env : Nat → AV) s, evA env (.const (.string s)) = .v (.string s)) ∧
    (∀ (env : Nat → AV) a n c, evA env (.const (.slice a n c)) = .v (.slice a n c)) ∧ (∀ (env : Nat → AV) f, evA env (.func f) = .v (.func (.func f) #[] #[])) ∧ (∀ (env : Nat → AV) d x, putE env (some d) x = upd env d x) ∧ (∀ (env : Nat → AV) x, putE env none x = env) :=
  ⟨fun _ _ => rfl, fun _ _ _ => rfl, fun _ _ => rfl, fun _ _ => rfl, fun _ _ _ _ => rfl, fun _ _ => rfl, fun _ _ _ => rfl, fun _ _ => rfl⟩
end Go.Proofs.YtfmnaigedgmhoaaGreatDoor
namespace Go.Proofs.YtfmnaigedgmhoaaGreatDoor
open Go.RowKit
set_option linter.unusedSimpArgs false
set_option linter.unusedVariables false
section
variable {C : Cx} {o : Oper} {ev : Operand → AV} {T : Sl}
end
end Go.Proofs.YtfmnaigedgmhoaaGreatDoor
namespace Go.Proofs.YtfmnaigedgmhoaaGreatDoor
open Go.RowKit
set_option linter.unusedSimpArgs false
set_option linter.unusedVariables false
theorem run_app_none_ {P : Program} (w : World) (t ty e : TypeId) {sz : Nat} (ht : P.underlying t = some (.slice e)) (hs : sizeIs P e sz) (A A' : Option Addr) (n c c' : Nat) (h : n ≤ c) : (Builtin.append_ #[t, t] ty #[.slice A n c, .slice A' 0 c']).run P w = .ok (.slice A n c) w := by
  have hf : (Builtin.firstCells sz 0 (.slice A' 0 c')).run P w = .ok #[] w := by
    cases A' with
    | none => exact run_firstCells_none w _ _ _ _
    | some a => exact run_firstCells_some w sz 0 a 0 c' [] (by simp) (by simp)
  have h1 := run_sizeOf hs w
  cases A <;> simp [Builtin.append_, run_underlying ht, h1, Builtin.lenOf, h, hf, storeCells]
section
variable {C : Cx} {o : Oper} {ev : Operand → AV} {T : Sl}
/-- append onto a full slice that is only read. -/
theorem op_app_rof {t e : TypeId} {y s : Operand} {z : Value} {sz b : Nat} {es rows : List (List AV)} {sv : AV} (ho : o.op = .call { callee := .builtin .append, args := #[y, s], argTypes := #[t, t] }) (hy : ev y = .rof es) (hs : ev s = sv) (hsrc : Src T sv rows)
    (ht : C.P.underlying t = some (.slice e)) (hz : zeroIs C.P e z sz b) (h0 : 0 < sz) (hes : ∀ x ∈ es, x.length = sz) (hsz : ∀ x ∈ rows, x.length = sz) (hb : (es.length + rows.length) * b ≤ 140737488355328) (hb0 : 0 < b) {es' : List (List AV)} (he : es ++ rows = es') :
    OpJ C o ev T (.ro es') T := by
  subst he
  intro a w S vals bss hm h K hK Q
  have h1 := h y (by simp [ho, Op.operands, Call.operands])
  have h2 := h s (by simp [ho, Op.operands, Call.operands])
  rw [hy] at h1
  rw [hs] at h2
  obtain ⟨A, c, us, sz', e1, h3, h4, h5, h6, h7⟩ := src_cells hm hsrc h2
  obtain ⟨-, A0, sz0, us0, e2, g2, g3, g4, g5, g6⟩ := (show Rep C.P S w [] (a.eval y) (.rof es) from h1).rof_inv
  have hmax : es.length + rows.length ≤ maxLen := by
    have := Nat.le_mul_of_pos_right (es.length + rows.length) hb0
    unfold maxLen
    omega
  have hfe := flat_len hes
  have hfr := flat_len hsz
  by_cases hn : rows = []
  · subst hn
    have hrun := run_app_none_ (P := C.P) w t o.type e ht hz.size A0 A es.length es.length c (Nat.le_refl _)
    unfold Oper.wp execOp
    simp only [ho, resolve, invoke, builtin, Sem.run_bind, Sem.run_pure, Result.andThen_ok, List.map_toArray, List.map_cons, List.map_nil, e2, e1, List.length_nil, hrun]
    rw [List.append_nil] at hK
    refine hK _ w S vals bss hm Follows.refl ?_
    have := Rep.ro_of_rof (show Rep C.P S w [] (a.eval y) (.rof es) from h1)
    rw [e2] at this
    exact this
  have hrp : 0 < rows.length := by
    rcases Nat.eq_zero_or_pos rows.length with h | h
    · exact absurd (List.eq_nil_of_length_eq_zero h) hn
    exact h
  have husl : us.length = rows.length * sz := by rw [h6.1, hfr]
  have hus0 : us0.length = es.length * sz := by rw [g5, hfe]
  obtain ⟨g, oo, rfl, hcell⟩ := h7 (by rw [husl]; exact Nat.mul_pos hrp h0)
  obtain ⟨hzi, hz2, hz3⟩ := id hz
  obtain ⟨i, hii, hz0, hz1, hz4⟩ := info_parts hzi
  have key : ∃ v' w', (Builtin.append_ #[t, t] o.type #[.slice A0 es.length es.length, .slice (some ⟨g, oo, none⟩) rows.length c]).run C.P w = .ok v' w' ∧ w'.ownsRow w.heap.size e sz v' (es.length + rows.length) (us0 ++ us) ∧ Kept (fun _ => True) w w' := by
    cases A0 with
    | some b0 =>
      obtain ⟨v', w', hrun, ho', hg⟩ := run_append_arg_grows (P := C.P) w t o.type e i z sz b ht hii hz0 hz1 hz4 hz2 h0 b0 es.length es.length us0 hus0 (fun j u hu => by
        obtain ⟨g1, o1, h, _, hc⟩ := g4 (by have := (List.getElem?_eq_some_iff.1 hu).1; omega)
        injection h with h
        subst h
        rw [add_off]
        exact hc j u hu) ⟨g, oo, none⟩ rows.length c us husl (fun j u hu => by rw [add_off]; exact hcell j u hu) (by omega) hmax hb
      exact ⟨v', w', hrun, ho', (Kept.refl _ _).grown hg (by simp)⟩
    | none =>
      have hu0 : us0 = [] := by
        rcases Nat.eq_zero_or_pos us0.length with h | h
        · exact List.eq_nil_of_length_eq_zero h
        obtain ⟨_, _, h, _⟩ := g4 h; cases h
      have hl0 : es.length = 0 := by
        subst hu0
        rcases Nat.eq_zero_or_pos es.length with h | h
        · exact h
        have := Nat.mul_pos h h0; simp at hus0; omega
      subst hu0
      obtain ⟨v', w', hrun, ho', hg, -, -⟩ := run_append_own_at (P := C.P) w w.heap.size t o.type e i z sz b ht hii hz0 hz1 hz4 hz2 h0 (.slice none 0 0) 0 [] ⟨by simp, .inl ⟨rfl, rfl⟩⟩ ⟨g, oo, none⟩ rows.length c us husl (fun j u hu => by rw [add_off]; exact hcell j u hu)
        (fun u hu => by
          obtain ⟨q, hq, rfl⟩ := List.getElem_of_mem hu
          exact (h6.2 q _ (rows.flatten[q]'(by rw [← h6.1]; exact hq)) (List.getElem?_eq_getElem _) (List.getElem?_eq_getElem _)).one) (by omega) (by rw [hl0] at hb; exact hb) (Nat.le_refl _)
      rw [hl0]
      exact ⟨v', w', hrun, ho', (Kept.refl _ _).grown hg fun k hk => by simp [Value.ownBlock] at hk⟩
  obtain ⟨v', w', hrun, hown, hk⟩ := key
  unfold Oper.wp execOp
  simp only [ho, resolve, invoke, builtin, Sem.run_bind, Sem.run_pure, Result.andThen_ok, List.map_toArray, List.map_cons, List.map_nil, e2, e1, hrun]
  have hS2 : ∀ k, S k → S k ∨ (w.heap.size ≤ k ∧ k < w'.heap.size) := fun k h => .inl h
  have hm1 := (hm.grow hk).more (S' := fun k => S k ∨ (w.heap.size ≤ k ∧ k < w'.heap.size)) hS2 fun k h => by
    rcases h with h | ⟨h1, h2⟩
    · exact .inl h
    refine .inr ⟨.inr (.inr (by have := hm.kept.size; omega)), h2, fun ⟨r, bs, q1, q2⟩ => ?_⟩
    have := hm.blt q1 k q2; omega
  have hf1 : Follows C.P S w T vals (fun k => S k ∨ (w.heap.size ≤ k ∧ k < w'.heap.size)) w' T vals := Follows.kept hk (fun _ _ _ => trivial) hS2
  refine hK v' w' _ vals bss hm1 hf1 ?_
  have hup : ∀ {u : Value} {x : AV}, Rep C.P S w [] u x → Rep C.P (fun k => S k ∨ (w.heap.size ≤ k ∧ k < w'.heap.size)) w' [] u x := fun h => (h.kept hk (fun _ _ _ => trivial) (by simp)).mono fun k _ => hS2 k
  show Rep C.P _ w' [] v' (.ro (es ++ rows))
  have hcs : RL (Rep C.P (fun k => S k ∨ (w.heap.size ≤ k ∧ k < w'.heap.size)) w' []) (us0 ++ us) (es ++ rows).flatten := by
    rw [List.flatten_append]
    exact RL.append ⟨g5, fun q u x q1 q2 => hup (g6 q u x q1 q2)⟩ (h6.mono fun u x => hup)
  rcases hown.2 with ⟨rfl, h9⟩ | ⟨g1, cap, cur, hv, q1, q2, q3, q4, q5⟩
  · exfalso; omega
  have hcells := hown.cells (g := g1) (by rw [hv]; rfl)
  have hlt := hown.lt g1 (by rw [hv]; rfl)
  rw [hv]
  have e3 : es.length + rows.length = (es ++ rows).length := by rw [List.length_append]
  rw [e3]
  refine Rep.ro (us := us0 ++ us) (sz := sz) (by rw [← e3]; exact q3) q4 (fun x hx => ?_) (fun _ => ⟨g1, 0, rfl, .inr ⟨hlt.1, hlt.2⟩, fun j u hu => by have := hcells j u hu; simpa [add_off] using this⟩) hcs.1 hcs.2
  rcases List.mem_append.1 hx with hx | hx
  · exact hes x hx
  exact hsz x hx
end
end Go.Proofs.YtfmnaigedgmhoaaGreatDoor
namespace Go.Proofs.YtfmnaigedgmhoaaGreatDoor
open Go.RowKit
set_option linter.unusedSimpArgs false
set_option linter.unusedVariables false
/-- The rewriting that every step of a walk ends with (all but the simprocs). -/
theorem nzL : (∀ (a b : Nat) (l : List Nat), (a :: l).contains b = (b == a || l.contains b)) ∧ (∀ a : Nat, ([] : List Nat).contains a = false) ∧
    (∀ b, (b || false) = b) ∧ (∀ b, (false || b) = b) ∧ (∀ b, (true || b) = true) ∧ (∀ b, (b || true) = true) ∧ ((false = true) = False) ∧
    (∀ (α : Type) (x d : α) (l : List α), (x :: l).getD 0 d = x) ∧ (∀ (α : Type) (x d : α) (l : List α) n, (x :: l).getD (n + 1) d = l.getD n d) ∧ (∀ (α : Type) (d : α) n, ([] : List α).getD n d = d) ∧
    (∀ (α β : Type) (f : α → β) x l, (x :: l).map f = f x :: l.map f) ∧ (∀ (α β : Type) (f : α → β), [].map f = []) ∧
    (∀ (α : Type) (l : List α), [] ++ l = l) ∧ (∀ (α : Type) (x : α) (l m : List α), (x :: l) ++ m = x :: (l ++ m)) ∧ (∀ (α : Type) (l : List α), l ++ [] = l) ∧
    (∀ (α : Type) (x : α) (l : List α), (x :: l).length = l.length + 1) ∧ (∀ (α : Type), ([] : List α).length = 0) ∧ (∀ (α β : Type) (f : α → β) (l : List α), (l.map f).length = l.length) ∧ (∀ n : Nat, 0 + n = n) ∧
    (∀ (α : Type) (x y : α) (l : List α), (x :: l).set 0 y = y :: l) ∧ (∀ (α : Type) (x y : α) (l : List α) n, (x :: l).set (n + 1) y = x :: l.set n y) ∧
    (∀ (α : Type) (x : α) (l : List α) n, (x :: l).take (n + 1) = x :: l.take n) ∧ (∀ (α : Type) (l : List α), l.take 0 = []) ∧ (∀ (α : Type) n, ([] : List α).take n = []) ∧
    (∀ (α : Type) (x : α) (l : List α) n, (x :: l).drop (n + 1) = l.drop n) ∧ (∀ (α : Type) (l : List α), l.drop 0 = l) ∧ (∀ (α : Type) n, ([] : List α).drop n = []) :=
  ⟨fun _ _ _ => List.contains_cons, fun _ => List.contains_nil, Bool.or_false, Bool.false_or, Bool.true_or, Bool.or_true, Bool.false_eq_true,
    fun _ _ _ _ => rfl, fun _ _ _ _ _ => rfl, fun _ _ _ => rfl, fun _ _ _ _ _ => rfl, fun _ _ _ => rfl, fun _ _ => rfl, fun _ _ _ _ => rfl, fun _ _ => List.append_nil _,
    fun _ _ _ => rfl, fun _ => rfl, fun _ _ _ _ => List.length_map _, Nat.zero_add, fun _ _ _ _ => rfl, fun _ _ _ _ _ => rfl,
    fun _ _ _ _ => rfl, fun _ _ => rfl, fun _ _ => List.take_nil, fun _ _ _ _ => rfl, fun _ _ => rfl, fun _ _ => List.drop_nil⟩
theorem nzA : (∀ (env : Nat → AV) d t x, upd env d x t = if t = d then x else env t) ∧ (∀ W (env : Nat → AV) t, era W env t = if W.contains t then .any else env t) ∧
    (∀ T x, pushT T x = ⟨T.slots ++ [(T.ep, x)], T.ep + 1⟩) ∧ (∀ ins, insT ins = ⟨ins.map fun x => (0, x), 1⟩) ∧
    (∀ (α : Type) (cs : List α) off xs, splice cs off xs = cs.take off ++ xs ++ cs.drop (off + xs.length)) ∧
    (∀ g b o, (ung g b o).dst = o.dst) ∧ (∀ z, packR [z] = z) ∧ packR [] = .tup [] ∧ (∀ x y l, packR (x :: y :: l) = .tup (x :: y :: l)) ∧ (∀ T, unp [] T = ([], T)) ∧
    (∀ e es ys T, unp (.own e es :: ys) T = (.sl T.slots.length T.ep 0 es.length :: (unp ys (pushT T (.own e es))).1, (unp ys (pushT T (.own e es))).2)) ∧
    (∀ x ys T, unp (.v x :: ys) T = (.v x :: (unp ys T).1, (unp ys T).2)) ∧ (∀ x ys T, unp (.ro x :: ys) T = (.ro x :: (unp ys T).1, (unp ys T).2)) ∧ (∀ x ys T, unp (.rof x :: ys) T = (.rof x :: (unp ys T).1, (unp ys T).2)) ∧
    (∀ x ys T, unp (.rop x :: ys) T = (.rop x :: (unp ys T).1, (unp ys T).2)) ∧ (∀ x y ys T, unp (.om x y :: ys) T = (.om x y :: (unp ys T).1, (unp ys T).2)) ∧ (∀ x y ys T, unp (.mp x y :: ys) T = (.mp x y :: (unp ys T).1, (unp ys T).2)) ∧ (∀ x ys T, unp (.agg x :: ys) T = (.agg x :: (unp ys T).1, (unp ys T).2)) ∧ (∀ x ys T, unp (.tup x :: ys) T = (.tup x :: (unp ys T).1, (unp ys T).2)) ∧
    (∀ a b c d ys T, unp (.sl a b c d :: ys) T = (.sl a b c d :: (unp ys T).1, (unp ys T).2)) ∧ (∀ a b c d ys T, unp (.ptr a b c d :: ys) T = (.ptr a b c d :: (unp ys T).1, (unp ys T).2)) ∧
    (∀ x ys T, unp (.sln x :: ys) T = (.sln x :: (unp ys T).1, (unp ys T).2)) ∧ (∀ ys T, unp (.any :: ys) T = (.any :: (unp ys T).1, (unp ys T).2)) :=
  ⟨fun _ _ _ _ => rfl, fun _ _ _ => rfl, fun _ _ => rfl, fun _ => rfl, fun _ _ _ _ => rfl, fun _ _ _ => rfl, fun _ => rfl, rfl, fun _ _ _ => rfl, fun _ => rfl, fun _ _ _ _ => rfl,
    fun _ _ _ => rfl, fun _ _ _ => rfl, fun _ _ _ => rfl, fun _ _ _ => rfl, fun _ _ _ _ => rfl, fun _ _ _ _ => rfl, fun _ _ _ => rfl, fun _ _ _ => rfl, fun _ _ _ _ _ _ => rfl, fun _ _ _ _ _ _ => rfl, fun _ _ _ => rfl, fun _ _ => rfl⟩
end Go.Proofs.YtfmnaigedgmhoaaGreatDoor
namespace Go.Proofs.YtfmnaigedgmhoaaGreatDoor
open Go.RowKit
set_option linter.unusedSimpArgs false
set_option linter.unusedVariables false
section
variable {C : Cx} {T : Sl} {S : Nat → Prop} {vals : List Value} {bss : List (List Nat)} {w w' : World}
theorem Mem.pushF (hm : Mem C T S vals bss w) (hk : Kept (fun _ => True) w w') {x : AV} {v : Value} {bs : List Nat} (hr : Rep C.P S w' bs v x) (hn : bs.Nodup) (hb : ∀ b ∈ bs, (∀ (q : Nat) (b1 : List Nat), bss[q]? = some b1 → b ∉ b1) ∧ ¬ S b ∧ (b ∈ C.own0 ∨ C.w0.heap.size ≤ b)) :
    Mem C ⟨T.slots ++ [(T.ep, x)], T.ep + 1⟩ S (vals ++ [v]) (bss ++ [bs]) w' ∧ Follows C.P S w T vals S w' ⟨T.slots ++ [(T.ep, x)], T.ep + 1⟩ (vals ++ [v]) := by
  have hw := hm.kept.size
  have hbl : ∀ (r : Nat) (bs : List Nat), bss[r]? = some bs → ∀ b ∈ bs, b < w.heap.size := fun r bs h b hb' => by
    have hr' : r < T.slots.length := by rw [← hm.nb]; exact (List.getElem?_eq_some_iff.1 h).1
    have h1 := List.getElem?_eq_getElem hr'
    have h2 := List.getElem?_eq_getElem (l := vals) (i := r) (by rw [hm.nv]; exact hr')
    exact (hm.rep r _ _ _ _ h1 h2 h).lt b hb'
  constructor
  · refine ⟨hm.kept.then hk (fun _ _ _ => trivial), hm.s0, hm.sub, fun k h => Nat.lt_of_lt_of_le (hm.lt k h) hk.size, by simp [hm.nv], by simp [hm.nb], ?_, ?_, ?_, ?_, ?_, ?_, ?_, by simp⟩
    · intro r k y u bs' h1 h2 h3
      rw [getElem?_snoc] at h1 h2 h3
      rw [hm.nv] at h2
      rw [hm.nb] at h3
      by_cases h : r < T.slots.length
      · rw [if_pos h] at h1 h2 h3
        exact (hm.rep r k y u bs' h1 h2 h3).kept hk (fun _ _ _ => trivial) fun _ _ => trivial
      rw [if_neg h] at h1 h2 h3
      by_cases h' : r = T.slots.length
      · rw [if_pos h'] at h1 h2 h3
        injection h1 with h1; injection h1 with _ h1
        injection h2 with h2; injection h3 with h3
        subst h1; subst h2; subst h3
        exact hr
      rw [if_neg h'] at h1; cases h1
    · intro r bs' h
      rw [getElem?_snoc] at h
      split at h
      · exact hm.nodup r bs' h
      split at h
      · injection h with h; subst h; exact hn
      cases h
    · intro r r' b1 b2 hne h1 h2 b hb1 hb2
      rw [getElem?_snoc] at h1 h2
      split at h1
      · have hlt := hbl r b1 h1 b hb1
        split at h2
        · exact hm.disj r r' b1 b2 hne h1 h2 b hb1 hb2
        split at h2
        · injection h2 with h2; subst h2; exact (hb b hb2).1 r b1 h1 hb1
        cases h2
      split at h1
      · injection h1 with h1; subst h1
        split at h2
        · exact (hb b hb1).1 r' b2 h2 hb2
        split at h2
        · omega
        cases h2
      cases h1
    · intro r bs' h b hb'
      rw [getElem?_snoc] at h
      split at h
      · exact hm.apart r bs' h b hb'
      split at h
      · injection h with h; subst h
        exact (hb b hb').2.1
      cases h
    · intro r bs' h b hb'
      rw [getElem?_snoc] at h
      split at h
      · exact hm.mine r bs' h b hb'
      split at h
      · injection h with h; subst h
        exact (hb b hb').2.2
      cases h
    · intro r y hlt h
      rw [getElem?_snoc] at h
      rw [getElem?_snoc, hm.nv]
      by_cases h' : r < T.slots.length
      · rw [if_pos h'] at h ⊢
        exact hm.root r y hlt h
      rw [if_neg h'] at h ⊢
      by_cases h2 : r = T.slots.length
      · rw [if_pos h2] at h
        injection h with h
        injection h with h _
        have := hm.pos; omega
      rw [if_neg h2] at h; cases h
    intro r k y h
    rw [getElem?_snoc] at h
    split at h
    · have := hm.ver r k y h; simp; omega
    split at h
    · injection h with h; injection h with h _; subst h; simp
    cases h
  intro u y h
  have hold : ∀ (r k : Nat) (x' : AV), k < T.ep → (T.slots ++ [(T.ep, x)])[r]? = some (k, x') → T.slots[r]? = some (k, x') ∧ (vals ++ [v])[r]? = vals[r]? := fun r k x' hk' h => by
    rw [getElem?_snoc] at h
    rw [getElem?_snoc, hm.nv]
    split at h
    · rename_i hl; rw [if_pos hl]; exact ⟨h, rfl⟩
    split at h
    · injection h with h; injection h with h _; omega
    cases h
  cases y with
  | sl r k off len =>
    refine ⟨by have := h.1; simp; omega, h.2.1, fun e es v' sz h1 h2 h3 => ?_⟩
    obtain ⟨h4, h5⟩ := hold r k _ h.1 h1
    rw [h5] at h2
    exact h.2.2 e es v' sz h4 h2 h3
  | ptr r k i j =>
    refine ⟨by have := h.1; simp; omega, h.2.1, fun e es v' sz h1 h2 h3 => ?_⟩
    obtain ⟨h4, h5⟩ := hold r k _ h.1 h1
    rw [h5] at h2
    exact h.2.2 e es v' sz h4 h2 h3
  | mp r k =>
    refine ⟨by have := h.1; simp; omega, h.2.1, fun b ks v' h1 h2 => ?_⟩
    obtain ⟨h4, h5⟩ := hold r k _ h.1 h1
    rw [h5] at h2
    exact h.2.2 b ks v' h4 h2
  | _ => exact RefOK.kept (T := T) h hk (fun _ _ _ => trivial) (fun _ h => h)
theorem Mem.setF {r k k' ep' : Nat} {x x' : AV} {v v' : Value} {bs bs' : List Nat} (hm : Mem C T S vals bss w) (hs : T.slots[r]? = some (k, x)) (hv : vals[r]? = some v) (hb : bss[r]? = some bs) (hk : Kept (fun q => q ∉ bs) w w')
    (hr : Rep C.P S w' bs' v' x') (hn : bs'.Nodup) (hsub : ∀ b ∈ bs', b ∈ bs ∨ ((∀ (q : Nat) (b1 : List Nat), q ≠ r → bss[q]? = some b1 → b ∉ b1) ∧ ¬ S b ∧ (b ∈ C.own0 ∨ C.w0.heap.size ≤ b)))
    (hver : (k' = k ∧ ep' = T.ep ∧ v' = v ∧ (∀ e es, x' = .own e es → ∃ es0, x = .own e es0 ∧ es0.length = es.length) ∧ (∀ b ks, x' = .om b ks → ∃ ks0, x = .om b ks0)) ∨ (k' = T.ep ∧ ep' = T.ep + 1)) :
    Mem C ⟨T.slots.set r (k', x'), ep'⟩ S (vals.set r v') (bss.set r bs') w' ∧ Follows C.P S w T vals S w' ⟨T.slots.set r (k', x'), ep'⟩ (vals.set r v') := by
  have hrl : r < T.slots.length := (List.getElem?_eq_some_iff.1 hs).1
  have hep : T.ep ≤ ep' := by rcases hver with h | h <;> omega
  have hkS : ∀ q, q < w.heap.size → S q → q ∉ bs := fun q _ hq hqb => hm.apart r bs hb q hqb hq
  constructor
  · refine ⟨hm.kept.then hk fun q hq hq' hqb => ?_, hm.s0, hm.sub, fun q h => Nat.lt_of_lt_of_le (hm.lt q h) hk.size, by simp [hm.nv], by simp [hm.nb], ?_, ?_, ?_, ?_, ?_, ?_, ?_, by show 0 < ep'; have := hm.pos; omega⟩
    · rcases hm.mine r bs hb q hqb with h | h
      · exact hq' h
      omega
    · intro q kq y u b1 h1 h2 h3
      rw [getElem?_set_ _ _ _ _ hrl] at h1
      rw [getElem?_set_ _ _ _ _ (by rw [hm.nv]; exact hrl)] at h2
      rw [getElem?_set_ _ _ _ _ (by rw [hm.nb]; exact hrl)] at h3
      by_cases h : r = q
      · rw [if_pos h] at h1 h2 h3
        injection h1 with h1; injection h1 with _ h1
        injection h2 with h2; injection h3 with h3
        subst h1; subst h2; subst h3
        exact hr
      rw [if_neg h] at h1 h2 h3
      exact (hm.rep q kq y u b1 h1 h2 h3).kept hk hkS fun b hb' hbb => hm.disj r q bs b1 h hb h3 b hbb hb'
    · intro q b1 h3
      rw [getElem?_set_ _ _ _ _ (by rw [hm.nb]; exact hrl)] at h3
      split at h3
      · injection h3 with h3; subst h3; exact hn
      exact hm.nodup q b1 h3
    · intro q q' b1 b2 hne h1 h2 b hb1 hb2
      rw [getElem?_set_ _ _ _ _ (by rw [hm.nb]; exact hrl)] at h1 h2
      split at h1
      · rename_i e1
        injection h1 with h1; subst h1
        rw [if_neg (fun e2 => hne (e1.symm.trans e2))] at h2
        rcases hsub b hb1 with h | h
        · exact hm.disj r q' bs b2 (fun e2 => hne (e1.symm.trans e2)) hb h2 b h hb2
        exact h.1 q' b2 (fun e2 => hne (e1.symm.trans e2.symm)) h2 hb2
      rename_i e1
      split at h2
      · injection h2 with h2; subst h2
        rename_i e2
        rcases hsub b hb2 with h | h
        · exact hm.disj r q bs b1 e1 hb h1 b h hb1
        exact h.1 q b1 (fun e => e1 e.symm) h1 hb1
      exact hm.disj q q' b1 b2 hne h1 h2 b hb1 hb2
    · intro q b1 h1 b hb1 hSb
      rw [getElem?_set_ _ _ _ _ (by rw [hm.nb]; exact hrl)] at h1
      split at h1
      · injection h1 with h1; subst h1
        rcases hsub b hb1 with h | h
        · exact hm.apart r bs hb b h hSb
        exact h.2.1 hSb
      exact hm.apart q b1 h1 b hb1 hSb
    · intro q b1 h1 b hb1
      rw [getElem?_set_ _ _ _ _ (by rw [hm.nb]; exact hrl)] at h1
      split at h1
      · injection h1 with h1; subst h1
        rcases hsub b hb1 with h | h
        · exact hm.mine r bs hb b h
        exact h.2.2
      exact hm.mine q b1 h1 b hb1
    · intro q y hlt h
      rw [getElem?_set_ _ _ _ _ hrl] at h
      rw [getElem?_set_ _ _ _ _ (by rw [hm.nv]; exact hrl)]
      split at h
      · rename_i e1
        rw [if_pos e1]
        injection h with h; injection h with h _
        rcases hver with ⟨h1, h2, h3, _⟩ | ⟨h1, h2⟩
        · subst h3
          subst e1
          have := hm.root r x hlt (by rw [hs, ← h1, h])
          rw [← this, hv]
        have := hm.pos; omega
      rename_i e1
      rw [if_neg e1]
      exact hm.root q y hlt h
    intro q kq y h
    rw [getElem?_set_ _ _ _ _ hrl] at h
    show kq < ep'
    split at h
    · injection h with h; injection h with h _
      have := hm.ver r k x hs
      rcases hver with ⟨h1, h2, _⟩ | ⟨h1, h2⟩ <;> omega
    have := hm.ver q kq y h; omega
  intro u y h
  have old : ∀ (q kq : Nat) (y' : AV), kq < T.ep → (T.slots.set r (k', x'))[q]? = some (kq, y') → (r ≠ q ∧ T.slots[q]? = some (kq, y') ∧ (vals.set r v')[q]? = vals[q]?) ∨ (r = q ∧ kq = k ∧ x' = y' ∧ v' = v ∧ (vals.set r v')[q]? = some v ∧ (∀ e es, x' = .own e es → ∃ es0, x = .own e es0 ∧ es0.length = es.length) ∧ (∀ b ks, x' = .om b ks → ∃ ks0, x = .om b ks0)) := fun q kq y' hkq h => by
    rw [getElem?_set_ _ _ _ _ hrl] at h
    rw [getElem?_set_ _ _ _ _ (by rw [hm.nv]; exact hrl)]
    split at h
    · rename_i e1
      injection h with h; injection h with h h'
      rcases hver with ⟨h1, h2, h3, h4, h5⟩ | ⟨h1, h2⟩
      · exact .inr ⟨e1, by omega, h', h3, by rw [if_pos e1, h3], h4, h5⟩
      omega
    rename_i e1
    exact .inl ⟨e1, h, by rw [if_neg e1]⟩
  cases y with
  | sl q kq off len =>
    refine ⟨Nat.lt_of_lt_of_le h.1 hep, h.2.1, fun e es v2 sz h1 h2 h3 => ?_⟩
    rcases old q kq _ h.1 h1 with ⟨_, h4, h5⟩ | ⟨rfl, rfl, hx, _, h5, h6, _⟩
    · rw [h5] at h2; exact h.2.2 e es v2 sz h4 h2 h3
    rw [h5] at h2
    injection h2 with h2; subst h2
    obtain ⟨es0, hx0, hl⟩ := h6 e es hx
    rw [← hl]
    exact h.2.2 e es0 v sz (by rw [hs, hx0]) hv h3
  | ptr q kq i j =>
    refine ⟨Nat.lt_of_lt_of_le h.1 hep, h.2.1, fun e es v2 sz h1 h2 h3 => ?_⟩
    rcases old q kq _ h.1 h1 with ⟨_, h4, h5⟩ | ⟨rfl, rfl, hx, _, h5, h6, _⟩
    · rw [h5] at h2; exact h.2.2 e es v2 sz h4 h2 h3
    rw [h5] at h2
    injection h2 with h2; subst h2
    obtain ⟨es0, hx0, hl⟩ := h6 e es hx
    rw [← hl]
    exact h.2.2 e es0 v sz (by rw [hs, hx0]) hv h3
  | mp q kq =>
    refine ⟨Nat.lt_of_lt_of_le h.1 hep, h.2.1, fun b ks v2 h1 h2 => ?_⟩
    rcases old q kq _ h.1 h1 with ⟨_, h4, h5⟩ | ⟨rfl, rfl, hx, _, h5, _, h6⟩
    · rw [h5] at h2; exact h.2.2 b ks v2 h4 h2
    rw [h5] at h2
    injection h2 with h2; subst h2
    obtain ⟨ks0, hx0⟩ := h6 b ks hx
    exact h.2.2 b ks0 v (by rw [hs, hx0]) hv
  | _ => exact RefOK.kept (T := T) h hk hkS (fun _ h => h)
end
theorem fold_dense_aux (sz : Nat) : ∀ (es : List (List AV)) (k : Nat) (pre : List AV), pre.length = k * sz → (∀ x ∈ es, x.length = sz) →
    ((List.range' k es.length).zip es).foldl (fun cs p => splice cs (p.1 * sz) p.2) (pre ++ List.replicate (es.length * sz) AV.any) = pre ++ es.flatten
  | [], k, pre, h, _ => by simp
  | x :: es, k, pre, h, hs => by
    have hx := hs x (by simp)
    rw [List.length_cons, List.range'_succ, List.zip_cons_cons, List.foldl_cons]
    have e : splice (pre ++ List.replicate ((es.length + 1) * sz) AV.any) (k * sz) x = (pre ++ x) ++ List.replicate (es.length * sz) AV.any := by
      unfold splice
      rw [List.take_append_of_le_length (by omega), List.take_of_length_le (by omega), List.drop_append, List.drop_eq_nil_of_le (by omega), List.nil_append, List.drop_replicate]
      congr 2
      rw [Nat.succ_mul]; omega
    simp only
    rw [e, fold_dense_aux sz es (k + 1) (pre ++ x) (by rw [List.length_append, h, hx, Nat.succ_mul]) (fun y hy => hs y (by simp [hy]))]
    simp
theorem fold_dense (sz : Nat) (es : List (List AV)) (hs : ∀ x ∈ es, x.length = sz) : ((List.range' 0 es.length).zip es).foldl (fun cs p => splice cs (p.1 * sz) p.2) (List.replicate (es.length * sz) AV.any) = es.flatten := by
  have := fold_dense_aux sz es 0 [] (by simp) hs
  simpa using this
section
variable {C : Cx} {T : Sl} {S : Nat → Prop} {vals : List Value} {bss : List (List Nat)} {w w' : World}
theorem set_flat {sz : Nat} {es : List (List AV)} (hs : ∀ e ∈ es, e.length = sz) {i : Nat} {row : List AV} (hrow : es[i]? = some row) {j : Nat} {x : AV} (hj : j < row.length) : (es.set i (row.set j x)).flatten = es.flatten.set (i * sz + j) x := by
  have e1 : row.set j x = splice row j [x] := by
    unfold splice
    rw [List.set_eq_take_append_cons_drop, if_pos hj]
    simp
  have hrl := hs row (List.mem_of_getElem? hrow)
  have hil : i < es.length := (List.getElem?_eq_some_iff.1 hrow).1
  have hle : i * sz + sz ≤ es.length * sz := by rw [← Nat.succ_mul]; exact Nat.mul_le_mul_right _ hil
  have hfl := flat_len hs
  rw [e1, flatten_set hs hrow j [x] (Nat.succ_le_of_lt hj)]
  unfold splice
  rw [List.set_eq_take_append_cons_drop, if_pos (by omega)]
  simp
theorem nodup_split {bss : List (List Nat)} {p : Nat} {b : List Nat} (h : bss.flatten.Nodup) (hp : bss[p]? = some b) : b.Nodup ∧ (bss.set p []).flatten.Nodup ∧ (∀ x ∈ b, x ∉ (bss.set p []).flatten) ∧ (∀ x ∈ (bss.set p []).flatten, x ∈ bss.flatten) ∧ (∀ x ∈ b, x ∈ bss.flatten) := by
  have hlt := (List.getElem?_eq_some_iff.1 hp).1
  have he := (List.getElem?_eq_some_iff.1 hp).2
  have e0 : bss = bss.take p ++ b :: bss.drop (p + 1) := by rw [← he, ← List.drop_eq_getElem_cons hlt, List.take_append_drop]
  have e1 : (bss.set p []).flatten = (bss.take p).flatten ++ (bss.drop (p + 1)).flatten := by
    rw [List.set_eq_take_append_cons_drop, if_pos hlt]; simp
  have e2 : bss.flatten = (bss.take p).flatten ++ (b ++ (bss.drop (p + 1)).flatten) := by
    conv => lhs; rw [e0]
    simp
  rw [e2, List.nodup_append, List.nodup_append] at h
  obtain ⟨h1, ⟨h2, h3, h4⟩, h5⟩ := h
  rw [e1, e2]
  refine ⟨h2, List.nodup_append.2 ⟨h1, h3, fun a ha c hc => h5 a ha c (by simp [hc])⟩, fun x hx hm => ?_, fun x hx => ?_, fun x hx => by simp [hx]⟩
  · rcases List.mem_append.1 hm with hm | hm
    · exact h5 x hm x (by simp [hx]) rfl
    exact h4 x hx x hm rfl
  rcases List.mem_append.1 hx with hx | hx <;> simp [hx]
/-- A cell's slice is taken out of its slot. -/
theorem Rep.take_cell {P : Program} {bs : List Nat} {v : Value} {e : TypeId} {es : List (List AV)} (h : Rep P S w bs v (.own e es)) (hnd : bs.Nodup) {i j : Nat} {row : List AV} {e' : TypeId} {es' : List (List AV)} (hrow : es[i]? = some row) (hx : row[j]? = some (.own e' es')) :
    ∃ u b bs2 sz, sizeIs P e sz ∧ Rep P S w b u (.own e' es') ∧ Rep P S w bs2 v (.own e (es.set i (row.set j (.sln es'.length)))) ∧ b.Nodup ∧ bs2.Nodup ∧ (∀ x ∈ b, x ∈ bs ∧ x ∉ bs2) ∧ (∀ x ∈ bs2, x ∈ bs) ∧
      (∀ g, v.ownBlock = some g → w.cell? ⟨g, i * sz + j, none⟩ = some u) ∧ (∃ g, v.ownBlock = some g) := by
  obtain ⟨us, sz, bss, rfl, hi, hsz, hown, hul, hbl, hc⟩ := h.own_inv
  have hf := flat_at hsz hrow hx
  have hlt : i * sz + j < us.length := by rw [hul]; exact (List.getElem?_eq_some_iff.1 hf).1
  have hjl : j < row.length := (List.getElem?_eq_some_iff.1 hx).1
  have h1 := List.getElem?_eq_getElem hlt
  have h2 := List.getElem?_eq_getElem (l := bss) (by rw [hbl]; exact hlt)
  have hr := hc _ _ _ _ h1 hf h2
  rw [List.nodup_append] at hnd
  obtain ⟨n1, n2, n3⟩ := hnd
  obtain ⟨m1, m2, m3, m4, m5⟩ := nodup_split n2 h2
  have hrl := hsz row (List.mem_of_getElem? hrow)
  refine ⟨_, _, v.ownBlock.toList ++ (bss.set (i * sz + j) []).flatten, sz, hi, hr, ?_, m1, ?_, ?_, ?_, fun g hg => ?_, ?_⟩
  · refine Rep.own (us := us) hi (fun x hx' => ?_) (by rw [List.length_set]; exact hown) (by rw [set_flat hsz hrow hjl, List.length_set]; exact hul) (by rw [List.length_set]; exact hbl) fun q u x b q1 q2 q3 => ?_
    · rcases List.mem_or_eq_of_mem_set hx' with h' | h'
      · exact hsz x h'
      rw [h', List.length_set]; exact hrl
    rw [set_flat hsz hrow hjl, List.getElem?_set] at q2
    rw [List.getElem?_set] at q3
    by_cases hq : i * sz + j = q
    · subst hq
      rw [if_pos rfl, if_pos (by rw [← hul]; exact hlt)] at q2
      rw [if_pos rfl, if_pos (by rw [hbl]; exact hlt)] at q3
      injection q2 with q2; injection q3 with q3
      subst q2; subst q3
      rw [h1] at q1; injection q1 with q1; subst q1
      exact hr.ldc
    rw [if_neg hq] at q2 q3
    exact hc q u x b q1 q2 q3
  · exact List.nodup_append.2 ⟨n1, m2, fun a ha b hb => n3 a ha b (m4 b hb)⟩
  · intro x hx'
    refine ⟨List.mem_append_right _ (m5 x hx'), fun hm => ?_⟩
    rcases List.mem_append.1 hm with hm | hm
    · exact n3 x hm x (m5 x hx') rfl
    exact m3 x hx' hm
  · intro x hx'
    rcases List.mem_append.1 hx' with hx' | hx'
    · exact List.mem_append_left _ hx'
    exact List.mem_append_right _ (m4 x hx')
  · have := hown.cells (g := g) hg _ _ h1
    rw [add_off, Nat.zero_add] at this
    exact this
  rcases hown.2 with ⟨rfl, h0⟩ | ⟨g, cap, cur, rfl, -⟩
  · have := List.eq_nil_of_length_eq_zero h0
    subst this; simp at hrow
  exact ⟨g, rfl⟩
end
section
variable {C : Cx} {o : Oper} {ev : Operand → AV} {T : Sl}
/-- A load of a cell that owns its slice: the slice gets a slot of its own. -/
theorem op_load_nest {t : TypeId} {y : Operand} {r k i j : Nat} {e e' : TypeId} {es es' : List (List AV)} {row : List AV} (ho : o.op = .load t y) (hy : ev y = .ptr r k i j) (hT : T.slots[r]? = some (k, .own e es)) (hrow : es[i]? = some row) (ha : aggB C.P t = some false) (hx : row[j]? = some (.own e' es'))
    {es2 : List (List AV)} (he2 : es.set i (row.set j (.sln es'.length)) = es2) : OpJ C o ev T (.sl T.slots.length T.ep 0 es'.length) ⟨T.slots.set r (k, .own e es2) ++ [(T.ep, .own e' es')], T.ep + 1⟩ := by
  subst he2
  intro a w S vals bss hm h K hK Q
  have h1 := h y (by simp [ho, Op.operands])
  rw [hy] at h1
  obtain ⟨v, bs, hv, hb, hrep⟩ := hm.slot hT
  obtain ⟨u, b, bs2, sz, hi, hr1, hr2, n1, n2, hbb, hb2, hcell, g0, hg0⟩ := hrep.take_cell (hm.nodup r bs hb) hrow hx
  obtain ⟨hil, g, nn, cap, hve, he⟩ := h1.2.2 e es v sz hT hv hi
  have hgg : v.ownBlock = some g := by rw [hve]; rfl
  have hc := hcell g hgg
  have hrl : r < T.slots.length := (List.getElem?_eq_some_iff.1 hT).1
  obtain ⟨hm1, hf1⟩ := hm.setF (k' := k) (ep' := T.ep) hT hv hb (Kept.refl _ w) hr2 n2 (fun x hx' => .inl (hb2 x hx')) (.inl ⟨rfl, rfl, rfl, fun e1 es1 he1 => by
    injection he1 with h3 h4
    subst h3; subst h4
    exact ⟨es, rfl, by simp⟩, fun b ks h => by cases h⟩)
  obtain ⟨hm2, hf2⟩ := hm1.pushF (Kept.refl _ w) (x := .own e' es') (v := u) hr1 n1 (fun x hx' => by
    obtain ⟨q1, q2⟩ := hbb x hx'
    refine ⟨fun q b1 hq hxb => ?_, hm.apart r bs hb x q1, hm.mine r bs hb x q1⟩
    rw [getElem?_set_ _ _ _ _ (by rw [hm.nb]; exact hrl)] at hq
    split at hq
    · injection hq with hq; subst hq; exact q2 hxb
    rename_i hne; exact hm.disj r q bs b1 hne hb hq x q1 hxb)
  have hlen : (T.slots.set r (k, AV.own e (es.set i (row.set j (.sln es'.length))))).length = T.slots.length := by simp
  have hl := run_loadOne (P := C.P) ha ⟨g, i * sz + j, none⟩ u w hc
  unfold Oper.wp execOp
  simp only [ho, he, Instr.loadAt, Instr.sureAddr, hl, Sem.run_bind, Result.andThen_ok, Sem.run_pure, Oper.upon_skip]
  refine hK u w S _ _ hm2 (fun u x hx' => hf2 u x (hf1 u x hx')) ?_
  have := push_sl (C := C) (T := ⟨T.slots.set r (k, .own e (es.set i (row.set j (.sln es'.length)))), T.ep⟩) (S := S) (S' := S) (vals := vals.set r v) (w' := w) (v := u) (bs := b) (e := e') (es := es') (by simp [hm.nv]) hr1
  unfold pushT at this
  simp only [hlen] at this
  exact this
/-- A slot's slice is stored into a cell, which owns it from now on. -/
theorem op_store_nest {t : TypeId} {y z : Operand} {r k i j q kq len : Nat} {e e' : TypeId} {es es' : List (List AV)} {row : List AV} (ho : o.op = .store t y z) (hy : ev y = .ptr r k i j) (hz : ev z = .sl q kq 0 len) (hT : T.slots[r]? = some (k, .own e es)) (hrow : es[i]? = some row) (hs : sizeIs C.P t 1)
    (hq : T.slots[q]? = some (kq, .own e' es')) (hrq : r ≠ q) (hl : len = es'.length) (hj : j < row.length) {es2 : List (List AV)} (he2 : es.set i (row.set j (.own e' es')) = es2) : OpJ C o ev T .any ⟨(T.slots.set q (kq, .any)).set r (k, .own e es2), T.ep⟩ := by
  subst hl
  subst he2
  intro a w S vals bss hm h K hK Q
  have h1 := h y (by simp [ho, Op.operands])
  have h2 := h z (by simp [ho, Op.operands])
  rw [hy] at h1
  rw [hz] at h2
  obtain ⟨v, bs, hv, hb, hrep⟩ := hm.slot hT
  obtain ⟨u, bq, hu, hbq, hrepq⟩ := hm.slot hq
  have hql : q < T.slots.length := (List.getElem?_eq_some_iff.1 hq).1
  have hrl : r < T.slots.length := (List.getElem?_eq_some_iff.1 hT).1
  -- what is stored
  have hval : a.eval z = u := by
    obtain ⟨us1, sz1, bss1, -, hi1, hsz1, hown1, -⟩ := hrepq.own_inv
    obtain ⟨-, A, nn, cap, hve, g3, g4, g5, g6⟩ := h2.2.2 e' es' u sz1 hq hu hi1
    rcases g6 with ⟨-, g6⟩ | ⟨A', g6, -⟩
    · rw [g6]
      rcases hown1.2 with ⟨h0, h0'⟩ | ⟨g, cap', cur, hcap, -⟩
      · rw [hve] at h0
        injection h0 with e1 e2 e3
        rw [hve, e1, e2, e3, h0']
      rw [hve] at hcap
      injection hcap with e1 e2 e3
      rw [hve, e1, e2, e3]
    omega
  -- the slot is left
  obtain ⟨hm1, hf1⟩ := hm.setF (k' := kq) (ep' := T.ep) (x' := .any) (bs' := []) hq hu hbq (Kept.refl _ w) (.any hrepq.one) (by simp) (by simp) (.inl ⟨rfl, rfl, rfl, (fun _ _ h => by cases h), (fun _ _ h => by cases h)⟩)
  have hT1 : (T.slots.set q (kq, AV.any))[r]? = some (k, .own e es) := by rw [getElem?_set_ _ _ _ _ hql, if_neg (fun h => hrq h.symm)]; exact hT
  have hv1 : (vals.set q u)[r]? = some v := by rw [getElem?_set_ _ _ _ _ (by rw [hm.nv]; exact hql), if_neg (fun h => hrq h.symm)]; exact hv
  have hb1 : (bss.set q [])[r]? = some bs := by rw [getElem?_set_ _ _ _ _ (by rw [hm.nb]; exact hql), if_neg (fun h => hrq h.symm)]; exact hb
  obtain ⟨g, cap, cur, sz, bs', hve, hg, hsz, hfit, hgb, hrep', hnd', hsub⟩ := hrep.own_set (hm.nodup r bs hb) (hm.apart r bs hb) hrow (vs := [u]) (xs := [.own e' es']) (bvs := [bq]) rfl rfl (fun p u1 x b h1 h2 h3 => by
    cases p with
    | zero =>
      simp at h1 h2 h3
      subst h1; subst h2; subst h3
      exact hrepq
    | succ p => simp at h1) (fun b hb' => by
      simp at hb'
      exact hm.disj q r bq bs (fun h => hrq h.symm) hbq hb b hb') (by simpa using hm.nodup q bq hbq) (Nat.succ_le_of_lt hj)
  obtain ⟨hil, g', n', cap', hve', hae⟩ := h1.2.2 e es v sz hT hv hsz
  rw [hve] at hve'
  injection hve' with e1 e2 e3
  injection e1 with e1
  injection e1 with e1
  subst e1
  have hone := hrepq.one
  have hcs : u.cells.toList = [u] := by
    cases u <;> first | rfl | (simp [Value.oneCell'] at hone)
  have hcs2 : u.cells.size = 1 := by rw [← Array.length_toList, hcs]; rfl
  have hrun := run_store_at (P := C.P) hs g (i * sz + j) e cur u w hg hcs2 (by rw [hcs2]; simpa using hfit) (fun x hx => by
    rw [hcs] at hx
    obtain rfl : x = u := by simpa using hx
    exact hone)
  rw [hcs] at hrun
  have hk : Kept (fun q => q ∉ bs) w (w.setRow g (cur.toList.take (i * sz + j) ++ [u] ++ cur.toList.drop (i * sz + j + [u].length)).toArray) := ⟨rfl, rfl, rfl, by simp, fun k _ hk' => setRow_other w g k _ (fun e => hk' (e ▸ hgb))⟩
  have hspl : splice row j [AV.own e' es'] = row.set j (.own e' es') := by
    unfold splice
    rw [List.set_eq_take_append_cons_drop, if_pos hj]
    simp
  rw [hspl] at hrep'
  obtain ⟨hm', hf⟩ := hm1.setF (k' := k) (ep' := T.ep) hT1 hv1 hb1 hk hrep' hnd' (fun b hb' => by
    rcases hsub b hb' with h | h
    · exact .inl h
    · simp at h
      refine .inr ⟨fun p b1 hp hpb hbb => ?_, hm.apart q bq hbq b h, hm.mine q bq hbq b h⟩
      rw [getElem?_set_ _ _ _ _ (by rw [hm.nb]; exact hql)] at hpb
      split at hpb
      · injection hpb with hpb; subst hpb; simp at hbb
      rename_i hne; exact hm.disj q p bq b1 hne hbq hpb b h hbb) (.inl ⟨rfl, rfl, rfl, fun e1 es1 he1 => by
    injection he1 with h3 h4
    subst h3; subst h4
    exact ⟨es, rfl, by simp⟩, fun b ks h => by cases h⟩)
  unfold Oper.wp execOp
  simp only [ho, hae, hval, hrun, Sem.run_bind, Result.andThen_ok, Sem.run_pure, Oper.upon_skip]
  exact hK undef _ _ _ _ hm' (fun u x hx' => hf u x (hf1 u x hx')) trivial
end
section
variable {C : Cx} {Q : Exit → Sta → Prop} {ops : Array Oper} {Ok : Sl → Prop} {fuel : Nat} {listed : Array Bool} {o : Oper} {env : Nat → AV} {T T' : Sl} {n : Nat} {x : AV}
theorem AW.ado {σ : Sta} {i n : Nat} {l : List Oper} (Ok : Sl → Prop) (hm : C.P.follows .mixedOrders = true) (hn : l.toArray.size = n) (h : AD C l.toArray Q Ok n (Array.replicate n false) σ) : AW C (.region i l.toArray true) Q σ := by
  subst hn
  exact AW.region_any hm (AD.any _ _ _ h)
theorem adFo (i : Nat) (hi : ops.toList[i]? = some o) (hj : ∀ T', Ok T' → OpJ C o (evA env) T' x T') (hT : Ok T) (hr : (Region.ready .any ops listed).contains i = true) (hf : Region.free .any ops listed i = true) (h : AD C ops Q Ok fuel (listed.setIfInBounds i true) ⟨putE env o.dst x, T, n⟩)
    (hg : o.guard = none := by rfl) (ho : opsOk o n = true := by rfl) : AD C ops Q Ok (fuel + 1) listed ⟨env, T, n⟩ :=
  AD.first (atL hi) hg ho hj fuel listed env T (Region.free_spec (atL hi) hf) (by simpa using hr) (fun _ _ => rfl) hT h
theorem adPo (i : Nat) (hi : ops.toList[i]? = some o) (hj : ∀ T', Ok T' → OpP C o (evA env) T' x) (hT : Ok T) (hr : (Region.ready .any ops listed).contains i = true) (hf : Region.free .any ops listed i = true) (h : AD C ops Q Ok fuel (listed.setIfInBounds i true) ⟨putE env o.dst x, T, n⟩)
    (hg : o.guard = none := by rfl) (ho : opsOk o n = true := by rfl) : AD C ops Q Ok (fuel + 1) listed ⟨env, T, n⟩ := adFo i hi (fun T' h => (hj T' h).j) hT hr hf h hg ho
theorem adRo (i : Nat) (hi : ops.toList[i]? = some o) (hj : ∀ T', Ok T' → OpR C o (evA env) T' x) (hT : Ok T) (hr : (Region.ready .any ops listed).contains i = true) (hf : Region.free .any ops listed i = true) (h : AD C ops Q Ok fuel (listed.setIfInBounds i true) ⟨putE env o.dst x, T, n⟩)
    (hg : o.guard = none := by rfl) (ho : opsOk o n = true := by rfl) : AD C ops Q Ok (fuel + 1) listed ⟨env, T, n⟩ := adFo i hi (fun T' h => (hj T' h).j) hT hr hf h hg ho
/-- The only operation that may come up. -/
theorem adJo (i : Nat) (hi : ops.toList[i]? = some o) (hj : OpJ C o (evA env) T x T') (hr : Region.ready .any ops listed = [i]) (hT : Ok T') (h : AD C ops Q Ok fuel (listed.setIfInBounds i true) ⟨putE env o.dst x, T', n⟩) (hg : o.guard = none := by rfl) (ho : opsOk o n = true := by rfl) : AD C ops Q Ok (fuel + 1) listed ⟨env, T, n⟩ :=
  ⟨fun h0 => (by rw [hr] at h0; cases h0), fun j hj' => by
    rw [hr] at hj'
    obtain rfl : j = i := by simpa using hj'
    exact ⟨o, x, T', atL hi, hg, ho, hj, .inl hT, h⟩⟩
theorem adDoneo (hr : Region.ready .any ops listed = []) (h : Q .normal ⟨env, T, n⟩) : AD C ops Q Ok fuel listed ⟨env, T, n⟩ := by
  cases fuel with
  | zero => exact ⟨hr, h⟩
  | succ f => exact ⟨fun _ => h, fun i hi => by rw [hr] at hi; cases hi⟩
end
section
variable {C : Cx} {σ : Sta}
/-- .. or is a list that is owned. -/
inductive Le2 (P : Program) : AV → AV → Prop
  | same {x} : Le2 P x x
  | nil : Le2 P (.v (.slice none 0 0)) (.ro [])
  | nilo {e sz} (h : sizeIs P e sz) : Le2 P (.v (.slice none 0 0)) (.own e [])
theorem Le2.rep {P : Program} {S : Nat → Prop} {w : World} {bs : List Nat} {u : Value} {x y : AV} (h : Le2 P x y) (hr : Rep P S w bs u x) : Rep P S w bs u y := by
  cases h with
  | same => exact hr
  | nil =>
    obtain ⟨rfl, rfl, _⟩ := hr.v_inv
    exact rep_ro_nil
  | nilo h =>
    obtain ⟨rfl, rfl, _⟩ := hr.v_inv
    exact rep_nil h
theorem Gh.slot2 {e : TypeId} {es es' : List (List AV)} {r k : Nat} (hT : σ.T.slots[r]? = some (k, .own e es)) (hl : es'.map List.length = es.map List.length) (hle : RL (Le2 C.P) es.flatten es'.flatten) : Gh C σ ⟨σ.env, ⟨σ.T.slots.set r (k, .own e es'), σ.T.ep⟩, σ.n⟩ := by
  intro a w ⟨hd, hn, S, vals, bss, hm, he⟩
  obtain ⟨v, bs, hv, hb, hrep⟩ := hm.slot hT
  have hlen : es'.length = es.length := by have := congrArg List.length hl; simpa using this
  have hrep' : Rep C.P S w bs v (.own e es') := by
    obtain ⟨us, sz, bss', rfl, hi, hsz, hown, hul, hbl, hc⟩ := hrep.own_inv
    refine .own hi (fun x hx => ?_) (by rw [hlen]; exact hown) (by rw [hul]; exact hle.1) hbl fun i u x b h1 h2 h3 => ?_
    · have h1 : x.length ∈ es'.map List.length := List.mem_map_of_mem hx
      rw [hl] at h1
      obtain ⟨y, hy, h2⟩ := List.mem_map.1 h1
      rw [← h2]; exact hsz y hy
    have hlt : i < es.flatten.length := by rw [hle.1]; exact (List.getElem?_eq_some_iff.1 h2).1
    have h4 := List.getElem?_eq_getElem hlt
    exact (hle.2 i _ x h4 h2).rep (hc i u _ b h1 h4 h3)
  obtain ⟨hm', hf⟩ := hm.set hT hv hb (Kept.refl _ _) hrep' (hm.nodup r bs hb) (fun b h => .inl h) (.inl ⟨rfl, rfl, rfl, fun e' es2 h => (by injection h with h1 h2; subst h1; subst h2; exact ⟨es, rfl, hlen.symm⟩), fun b ks h => (by cases h)⟩)
  exact ⟨hd, hn, S, _, _, hm', fun t ht => TmpOK.follows hf (he t ht)⟩
/-- What a cell says when all is frozen. -/
def fz1 : AV → AV
  | .own _ es => .ro es
  | x => x
def flat2 (x : AV) : Prop := flatA x = true ∨ ∃ e es, x = .own e es ∧ ∀ r ∈ es, ∀ c ∈ r, flatA c = true
end
section
variable {C : Cx} {o : Oper} {ev : Operand → AV} {T : Sl} {t yt : TypeId} {p q : Operand} {x y : Bool}
theorem run_equalIn_bool (P : Program) (d : Nat) (t : TypeId) (x y : Bool) (h : P.underlying t = some .bool) (w : World) : (Op.equalIn (d + 1) t (.bool x) (.bool y)).run P w = .ok (x == y) w := by
  simp [Op.equalIn, run_underlying h]
theorem run_equal_bool (P : Program) (t : TypeId) (x y : Bool) (h : P.underlying t = some .bool) (w : World) : (Op.equal t (.bool x) (.bool y)).run P w = .ok (x == y) w := run_equalIn_bool P 9999 t x y h w
theorem op_beql (ho : o.op = .binOp .eql t p q yt) (hp : ev p = .v (.bool x)) (hq : ev q = .v (.bool y)) (ht : C.P.underlying t = some .bool) : OpP C o ev T (.v (.bool (x == y))) :=
  op_bin ho hp hq (fun w => by unfold eqGuard; simp [Program.eqGuardType, run_program, ht]) (fun w => by simp [binOp, run_equal_bool _ _ _ _ ht]) rfl
theorem op_bneq (ho : o.op = .binOp .neq t p q yt) (hp : ev p = .v (.bool x)) (hq : ev q = .v (.bool y)) (ht : C.P.underlying t = some .bool) : OpP C o ev T (.v (.bool (x != y))) :=
  op_bin ho hp hq (fun w => by unfold eqGuard; simp [Program.eqGuardType, run_program, ht]) (fun w => by cases x <;> cases y <;> simp [binOp, run_equal_bool _ _ _ _ ht]) rfl
end
section
variable {C : Cx} {σ : Sta}
theorem Rep.put_flat {P : Program} {S : Nat → Prop} {w : World} {bs : List Nat} {v : Value} {e : TypeId} {es : List (List AV)} (h : Rep P S w bs v (.own e es)) {i j : Nat} {row : List AV} {x' : AV} (hrow : es[i]? = some row) {x0 : AV} (hx0 : row[j]? = some x0) (hfl : flatA x0 = true)
    (hrep : ∀ u g sz, sizeIs P e sz → v.ownBlock = some g → w.cell? ⟨g, i * sz + j, none⟩ = some u → Rep P S w [] u x') : Rep P S w bs v (.own e (es.set i (row.set j x'))) := by
  obtain ⟨us, sz, bss, rfl, hi, hsz, hown, hul, hbl, hc⟩ := h.own_inv
  have hf := flat_at hsz hrow hx0
  have hlt : i * sz + j < us.length := by rw [hul]; exact (List.getElem?_eq_some_iff.1 hf).1
  have hjl : j < row.length := (List.getElem?_eq_some_iff.1 hx0).1
  have hrl := hsz row (List.mem_of_getElem? hrow)
  have h1 := List.getElem?_eq_getElem hlt
  have h2 := List.getElem?_eq_getElem (l := bss) (by rw [hbl]; exact hlt)
  have hb0 := (hc _ _ _ _ h1 hf h2).flat hfl
  refine Rep.own (us := us) hi (fun x hx' => ?_) (by rw [List.length_set]; exact hown) (by rw [set_flat hsz hrow hjl, List.length_set]; exact hul) hbl fun q u x b q1 q2 q3 => ?_
  · rcases List.mem_or_eq_of_mem_set hx' with h' | h'
    · exact hsz x h'
    rw [h', List.length_set]; exact hrl
  rw [set_flat hsz hrow hjl, List.getElem?_set] at q2
  by_cases hq : i * sz + j = q
  · subst hq
    rw [if_pos rfl, if_pos (by rw [← hul]; exact hlt)] at q2
    injection q2 with q2
    subst q2
    rw [h2] at q3; injection q3 with q3
    rw [← q3, hb0]
    rw [h1] at q1; injection q1 with q1; subst q1
    rcases hown.2 with ⟨rfl, h0⟩ | ⟨g, cap, cur, rfl, -⟩
    · have := List.eq_nil_of_length_eq_zero h0
      subst this; simp at hrow
    refine hrep _ g sz hi rfl ?_
    have := hown.cells (g := g) rfl _ _ h1
    rw [add_off, Nat.zero_add] at this
    exact this
  rw [if_neg hq] at q2
  exact hc q u x b q1 q2 q3
/-- The slice that a cell owns is frozen. -/
theorem Gh.freezeC {e e' : TypeId} {es es' : List (List AV)} {row : List AV} {r k : Nat} (i j : Nat) (hT : σ.T.slots[r]? = some (k, .own e es)) (hrow : es[i]? = some row) (hx : row[j]? = some (.own e' es')) (hf0 : ∀ r ∈ es', ∀ c ∈ r, flatA c = true) {es2 : List (List AV)} (he2 : es.set i (row.set j (.ro es')) = es2) :
    Gh C σ ⟨σ.env, ⟨σ.T.slots.set r (k, .own e es2), σ.T.ep⟩, σ.n⟩ := by
  subst he2
  intro a w ⟨hd, hn, S, vals, bss, hm, he⟩
  obtain ⟨v, bs, hv, hb, hrep⟩ := hm.slot hT
  obtain ⟨u, b, bs2, sz, hi, hr1, hr2, n1, n2, hbb, hb2, hcell, g0, hg0⟩ := hrep.take_cell (hm.nodup r bs hb) hrow hx
  obtain ⟨us', A', c', sz', hu', p1, p2, hsz', hi', hul', hcc', hcell'⟩ := rep_freeze hr1 hf0
  have hrl : r < σ.T.slots.length := (List.getElem?_eq_some_iff.1 hT).1
  have hjl : j < row.length := (List.getElem?_eq_some_iff.1 hx).1
  have hil : i < es.length := (List.getElem?_eq_some_iff.1 hrow).1
  have hro : Rep C.P (fun q => S q ∨ q ∈ b) w [] u (.ro es') := by
    subst hu'
    refine Rep.ro (us := us') p1 p2 hsz' (fun hn => ?_) hul' fun i u x hu hx => (hcc' i u x hu hx).mono fun _ _ h => .inl h
    obtain ⟨g, r1, r2, r3⟩ := hcell' hn
    exact ⟨g, 0, r1, .inr r2, fun j u hu => by rw [Nat.zero_add]; exact r3 j u hu⟩
  have hr3 : Rep C.P (fun q => S q ∨ q ∈ b) w bs2 v (.own e (es.set i (row.set j (.ro es')))) := by
    have := (hr2.mono (S' := fun q => S q ∨ q ∈ b) fun _ _ h => .inl h).put_flat (i := i) (j := j) (row := row.set j (.sln es'.length)) (x' := .ro es') (by simp [hil]) (x0 := .sln es'.length) (by simp [hjl]) rfl (fun u1 g sz1 hz1 hg1 hc1 => by
      have e1 := sizeIs.inj hi hz1
      subst e1
      have := hcell g hg1
      rw [this] at hc1
      injection hc1 with hc1
      subst hc1
      exact hro)
    rwa [List.set_set, List.set_set] at this
  have hbt : ∀ (q : Nat) (b1 : List Nat), (bss.set r bs2)[q]? = some b1 → (b1 = bs2 ∧ q = r) ∨ (q ≠ r ∧ bss[q]? = some b1) := by
    intro q b1 h
    rw [getElem?_set_ _ _ _ _ (by rw [hm.nb]; exact hrl)] at h
    split at h
    · rename_i e1; injection h with h; exact .inl ⟨h.symm, e1.symm⟩
    rename_i e1; exact .inr ⟨fun e => e1 e.symm, h⟩
  have hf : Follows C.P S w σ.T vals (fun q => S q ∨ q ∈ b) w ⟨σ.T.slots.set r (k, .own e (es.set i (row.set j (.ro es')))), σ.T.ep⟩ vals := by
    intro u x hx
    have key2 : ∀ (q kq : Nat) (x : AV), (σ.T.slots.set r (k, .own e (es.set i (row.set j (.ro es')))))[q]? = some (kq, x) → σ.T.slots[q]? = some (kq, x) ∨ (q = r ∧ kq = k ∧ x = .own e (es.set i (row.set j (.ro es')))) := by
      intro q kq x q1
      rw [getElem?_set_ _ _ _ _ hrl] at q1
      split at q1
      · rename_i e1; injection q1 with q1; injection q1 with q0 q1; exact .inr ⟨e1.symm, q0.symm, q1.symm⟩
      exact .inl q1
    cases x with
    | sl q kq off len => exact ⟨hx.1, hx.2.1, fun e2 es2 v2 sz2 q1 q2 q3 => by
        rcases key2 _ _ _ q1 with h | ⟨rfl, rfl, h⟩
        · exact hx.2.2 e2 es2 v2 sz2 h q2 q3
        injection h with h1 h2
        subst h1; subst h2
        rw [List.length_set]
        exact hx.2.2 e2 es v2 sz2 hT q2 q3⟩
    | ptr q kq i2 j2 => exact ⟨hx.1, hx.2.1, fun e2 es2 v2 sz2 q1 q2 q3 => by
        rcases key2 _ _ _ q1 with h | ⟨rfl, rfl, h⟩
        · exact hx.2.2 e2 es2 v2 sz2 h q2 q3
        injection h with h1 h2
        subst h1; subst h2
        rw [List.length_set]
        exact hx.2.2 e2 es v2 sz2 hT q2 q3⟩
    | mp q kq => exact ⟨hx.1, hx.2.1, fun b1 ks v1 q1 q2 => by
        rcases key2 _ _ _ q1 with h | ⟨rfl, rfl, h⟩
        · exact hx.2.2 b1 ks v1 h q2
        cases h⟩
    | nm => exact hx
    | byt => exact hx
    | om => exact hx
    | _ => exact RefOK.kept (T := σ.T) (vals := vals) hx (Kept.refl (fun _ => True) w) (fun _ _ _ => trivial) (fun q h => .inl h)
  refine ⟨hd, hn, fun q => S q ∨ q ∈ b, vals, bss.set r bs2, ⟨hm.kept, fun q h => .inl (hm.s0 q h), fun q h => ?_, fun q h => ?_, by simp [hm.nv], by simp [hm.nb], ?_, ?_, ?_, ?_, ?_, ?_, ?_, hm.pos⟩, fun q hq => TmpOK.follows hf (he q hq)⟩
  · rcases h with h | h
    · exact hm.sub q h
    rcases hm.mine r bs hb q (hbb q h).1 with h | h
    · exact .inr (.inl h)
    exact .inr (.inr h)
  · rcases h with h | h
    · exact hm.lt q h
    exact hm.blt hb q (hbb q h).1
  · intro q kq y u b1 q1 q2 q3
    rw [getElem?_set_ _ _ _ _ hrl] at q1
    rcases hbt q b1 q3 with ⟨rfl, rfl⟩ | ⟨hne, q4⟩
    · rw [if_pos rfl] at q1
      injection q1 with q1; injection q1 with _ q1
      subst q1
      rw [hv] at q2
      injection q2 with q2
      subst q2
      exact hr3
    rw [if_neg (fun e => hne e.symm)] at q1
    exact (hm.rep q kq y u b1 q1 q2 q4).mono fun _ _ h => .inl h
  · intro q b1 q1
    rcases hbt q b1 q1 with ⟨rfl, rfl⟩ | ⟨hne, q4⟩
    · exact n2
    exact hm.nodup q b1 q4
  · intro q q' b1 b2 hne q1 q2 x hx1 hx2
    rcases hbt q b1 q1 with ⟨rfl, rfl⟩ | ⟨hne1, q4⟩
    · rcases hbt q' b2 q2 with ⟨rfl, rfl⟩ | ⟨hne2, q5⟩
      · exact hne rfl
      exact hm.disj q q' bs b2 hne hb q5 x (hb2 x hx1) hx2
    rcases hbt q' b2 q2 with ⟨rfl, rfl⟩ | ⟨hne2, q5⟩
    · exact hm.disj q q' b1 bs hne q4 hb x hx1 (hb2 x hx2)
    exact hm.disj q q' b1 b2 hne q4 q5 x hx1 hx2
  · intro q b1 q1 x hx1 hS
    rcases hbt q b1 q1 with ⟨rfl, rfl⟩ | ⟨hne1, q4⟩
    · rcases hS with hS | hS
      · exact hm.apart q bs hb x (hb2 x hx1) hS
      exact (hbb x hS).2 hx1
    rcases hS with hS | hS
    · exact hm.apart q b1 q4 x hx1 hS
    exact hm.disj q r b1 bs hne1 q4 hb x hx1 (hbb x hS).1
  · intro q b1 q1 x hx1
    rcases hbt q b1 q1 with ⟨rfl, rfl⟩ | ⟨hne1, q4⟩
    · exact hm.mine q bs hb x (hb2 x hx1)
    exact hm.mine q b1 q4 x hx1
  · intro q y hlt q1
    rw [getElem?_set_ _ _ _ _ hrl] at q1
    split at q1
    · rename_i e1
      injection q1 with q1; injection q1 with q1 _
      subst e1
      exact hm.root r _ hlt (by rw [hT, q1])
    exact hm.root q y hlt q1
  intro q kq y q1
  rw [getElem?_set_ _ _ _ _ hrl] at q1
  split at q1
  · injection q1 with q1; injection q1 with q1 _
    rw [← q1]; exact hm.ver r k _ hT
  exact hm.ver q kq y q1
end
theorem nzR : (∀ r k x, renA r k (.v x) = .v x) ∧ (∀ r k x, renA r k (.ro x) = .ro x) ∧ (∀ r k x, renA r k (.rof x) = .rof x) ∧ (∀ r k e x, renA r k (.own e x) = .own e x) ∧ (∀ r k cs, renA r k (.agg cs) = .agg (cs.map (ren1 r k))) ∧
    (∀ r k x, ren1 r k (.v x) = .v x) ∧ (∀ r k x, ren1 r k (.ro x) = .ro x) ∧ (∀ r k x, ren1 r k (.rof x) = .rof x) ∧ (∀ r k x, ren1 r k (.sln x) = .sln x) :=
  ⟨fun _ _ _ => rfl, fun _ _ _ => rfl, fun _ _ _ => rfl, fun _ _ _ _ => rfl, fun _ _ _ => rfl, fun _ _ _ => rfl, fun _ _ _ => rfl, fun _ _ _ => rfl, fun _ _ _ => rfl⟩
/-- All of these under one short name, for simp. -/
theorem nA : ((∀ (env : Nat → AV) t, evA env (.tmp t) = env t) ∧ (∀ (env : Nat → AV) k n, evA env (.const (.int k n)) = .v (.int k n)) ∧ (∀ (env : Nat → AV) b, evA env (.const (.bool b)) = .v (.bool b)) ∧ (∀ (env : Nat → AV) s, evA env (.const (.string s)) = .v (.string s)) ∧ (∀ (env : Nat → AV) a n c, evA env (.const (.slice a n c)) = .v (.slice a n c)) ∧ (∀ (env : Nat → AV) f, evA env (.func f) = .v (.func (.func f) #[] #[])) ∧ (∀ (env : Nat → AV) d x, putE env (some d) x = upd env d x) ∧ (∀ (env : Nat → AV) x, putE env none x = env)) ∧ ((∀ x, ldc (.v x) = .v x) ∧ (∀ x, ldc (.ro x) = .ro x) ∧ (∀ x, ldc (.rof x) = .rof x) ∧ (∀ x, ldc (.rop x) = .rop x) ∧ (∀ e x, ldc (.own e x) = .sln x.length) ∧ (∀ n, ldc (.sln n) = .sln n) ∧ ldc .any = .any ∧ (∀ x, stc (.v x) = .v x) ∧ (∀ x, stc (.ro x) = .ro x) ∧ (∀ x, stc (.rof x) = .rof x) ∧ (∀ x, stc (.rop x) = .rop x) ∧ (∀ n, stc (.sln n) = .sln n) ∧ stc .any = .any ∧ (∀ a b c d, stc (.sl a b c d) = .any) ∧ (∀ a b c d, stc (.ptr a b c d) = .any)) ∧ ((∀ r k x, renA r k (.v x) = .v x) ∧ (∀ r k x, renA r k (.ro x) = .ro x) ∧ (∀ r k x, renA r k (.rof x) = .rof x) ∧ (∀ r k e x, renA r k (.own e x) = .own e x) ∧ (∀ r k cs, renA r k (.agg cs) = .agg (cs.map (ren1 r k))) ∧ (∀ r k x, ren1 r k (.v x) = .v x) ∧ (∀ r k x, ren1 r k (.ro x) = .ro x) ∧ (∀ r k x, ren1 r k (.rof x) = .rof x) ∧ (∀ r k x, ren1 r k (.sln x) = .sln x)) ∧ ((∀ (env : Nat → AV) d t x, upd env d x t = if t = d then x else env t) ∧ (∀ W (env : Nat → AV) t, era W env t = if W.contains t then .any else env t) ∧ (∀ T x, pushT T x = ⟨T.slots ++ [(T.ep, x)], T.ep + 1⟩) ∧ (∀ ins, insT ins = ⟨ins.map fun x => (0, x), 1⟩) ∧ (∀ (α : Type) (cs : List α) off xs, splice cs off xs = cs.take off ++ xs ++ cs.drop (off + xs.length)) ∧ (∀ g b o, (ung g b o).dst = o.dst) ∧ (∀ z, packR [z] = z) ∧ packR [] = .tup [] ∧ (∀ x y l, packR (x :: y :: l) = .tup (x :: y :: l)) ∧ (∀ T, unp [] T = ([], T)) ∧ (∀ e es ys T, unp (.own e es :: ys) T = (.sl T.slots.length T.ep 0 es.length :: (unp ys (pushT T (.own e es))).1, (unp ys (pushT T (.own e es))).2)) ∧ (∀ x ys T, unp (.v x :: ys) T = (.v x :: (unp ys T).1, (unp ys T).2)) ∧ (∀ x ys T, unp (.ro x :: ys) T = (.ro x :: (unp ys T).1, (unp ys T).2)) ∧ (∀ x ys T, unp (.rof x :: ys) T = (.rof x :: (unp ys T).1, (unp ys T).2)) ∧ (∀ x ys T, unp (.rop x :: ys) T = (.rop x :: (unp ys T).1, (unp ys T).2)) ∧ (∀ x y ys T, unp (.om x y :: ys) T = (.om x y :: (unp ys T).1, (unp ys T).2)) ∧ (∀ x y ys T, unp (.mp x y :: ys) T = (.mp x y :: (unp ys T).1, (unp ys T).2)) ∧ (∀ x ys T, unp (.agg x :: ys) T = (.agg x :: (unp ys T).1, (unp ys T).2)) ∧ (∀ x ys T, unp (.tup x :: ys) T = (.tup x :: (unp ys T).1, (unp ys T).2)) ∧ (∀ a b c d ys T, unp (.sl a b c d :: ys) T = (.sl a b c d :: (unp ys T).1, (unp ys T).2)) ∧ (∀ a b c d ys T, unp (.ptr a b c d :: ys) T = (.ptr a b c d :: (unp ys T).1, (unp ys T).2)) ∧ (∀ x ys T, unp (.sln x :: ys) T = (.sln x :: (unp ys T).1, (unp ys T).2)) ∧ (∀ ys T, unp (.any :: ys) T = (.any :: (unp ys T).1, (unp ys T).2))) ∧ ((∀ (a b : Nat) (l : List Nat), (a :: l).contains b = (b == a || l.contains b)) ∧ (∀ a : Nat, ([] : List Nat).contains a = false) ∧ (∀ b, (b || false) = b) ∧ (∀ b, (false || b) = b) ∧ (∀ b, (true || b) = true) ∧ (∀ b, (b || true) = true) ∧ ((false = true) = False) ∧ (∀ (α : Type) (x d : α) (l : List α), (x :: l).getD 0 d = x) ∧ (∀ (α : Type) (x d : α) (l : List α) n, (x :: l).getD (n + 1) d = l.getD n d) ∧ (∀ (α : Type) (d : α) n, ([] : List α).getD n d = d) ∧ (∀ (α β : Type) (f : α → β) x l, (x :: l).map f = f x :: l.map f) ∧ (∀ (α β : Type) (f : α → β), [].map f = []) ∧ (∀ (α : Type) (l : List α), [] ++ l = l) ∧ (∀ (α : Type) (x : α) (l m : List α), (x :: l) ++ m = x :: (l ++ m)) ∧ (∀ (α : Type) (l : List α), l ++ [] = l) ∧ (∀ (α : Type) (x : α) (l : List α), (x :: l).length = l.length + 1) ∧ (∀ (α : Type), ([] : List α).length = 0) ∧ (∀ (α β : Type) (f : α → β) (l : List α), (l.map f).length = l.length) ∧ (∀ n : Nat, 0 + n = n) ∧ (∀ (α : Type) (x y : α) (l : List α), (x :: l).set 0 y = y :: l) ∧ (∀ (α : Type) (x y : α) (l : List α) n, (x :: l).set (n + 1) y = x :: l.set n y) ∧ (∀ (α : Type) (x : α) (l : List α) n, (x :: l).take (n + 1) = x :: l.take n) ∧ (∀ (α : Type) (l : List α), l.take 0 = []) ∧ (∀ (α : Type) n, ([] : List α).take n = []) ∧ (∀ (α : Type) (x : α) (l : List α) n, (x :: l).drop (n + 1) = l.drop n) ∧ (∀ (α : Type) (l : List α), l.drop 0 = l) ∧ (∀ (α : Type) n, ([] : List α).drop n = [])) := ⟨evS, lcS, nzR, nzA, nzL⟩
theorem hcS : (∀ a b : Bool, ((a && b) = true) = (a = true ∧ b = true)) ∧ (∀ a b : Bool, ((a || b) = true) = (a = true ∨ b = true)) ∧ (∀ a b : Bool, ((a || b) = false) = (a = false ∧ b = false)) ∧ (∀ a b : Bool, ((a && b) = false) = (a = false ∨ b = false)) ∧
    (∀ (p : Prop) [Decidable p], (decide p = true) = p) ∧ (∀ (p : Prop) [Decidable p], (decide p = false) = ¬ p) ∧ (∀ a b : Int, (¬ a ≤ b) = (b < a)) ∧ (∀ a b : Int, (¬ a < b) = (b ≤ a)) ∧ (∀ (α : Type) [LE α] (a b : α), (a ≥ b) = (b ≤ a)) ∧ (∀ (α : Type) [LT α] (a b : α), (a > b) = (b < a)) ∧
    (∀ b : Bool, ((!b) = true) = (b = false)) ∧ (∀ b : Bool, ((!b) = false) = (b = true)) ∧ (∀ (α : Type) [BEq α] [LawfulBEq α] (a b : α), ((a != b) = true) = (a ≠ b)) ∧ (∀ (α : Type) [BEq α] [LawfulBEq α] (a b : α), ((a == b) = true) = (a = b)) ∧
    (∀ (α : Type) [BEq α] [LawfulBEq α] (a b : α), ((a != b) = false) = (a = b)) ∧ (∀ (α : Type) [BEq α] [LawfulBEq α] (a b : α), ((a == b) = false) = (a ≠ b)) ∧ (∀ (α : Type) (a b : α), (a ≠ b) = ¬ (a = b)) := by
  refine ⟨?_, ?_, ?_, ?_, ?_, ?_, ?_, ?_, ?_, ?_, ?_, ?_, ?_, ?_, ?_, ?_, ?_⟩
  case refine_4 => intro a b; cases a <;> cases b <;> simp
  case refine_11 => intro b; cases b <;> simp
  case refine_12 => intro b; cases b <;> simp
  all_goals intros; simp
end Go.Proofs.YtfmnaigedgmhoaaGreatDoor
namespace Go.Proofs.YtfmnaigedgmhoaaGreatDoor
open Go.RowKit
set_option linter.unusedSimpArgs false
set_option linter.unusedVariables false
section
variable {C : Cx} {o : Oper} {ev : Operand → AV} {T : Sl}
end
end Go.Proofs.YtfmnaigedgmhoaaGreatDoor
namespace Go.Proofs.YtfmnaigedgmhoaaGreatDoor
open Go.RowKit
set_option linter.unusedSimpArgs false
set_option linter.unusedVariables false
section
variable {C : Cx} {T : Sl} {S S2 : Nat → Prop} {vals : List Value} {bss : List (List Nat)} {w w' : World}
/-- How a call that lends the slots r1 and r2 sees its arguments. -/
inductive View2 (T : Sl) (r1 k1 r2 k2 : Nat) : AV → AV → Prop
  | base {y x} (h : View T false y x) : View2 T r1 k1 r2 k2 y x
  | ptr {i j} : View2 T r1 k1 r2 k2 (.ptr r1 k1 i j) (.ptr 0 0 i j)
  | sl {off len} : View2 T r1 k1 r2 k2 (.sl r2 k2 off len) (.sl 1 0 off len)
variable {o : Oper} {ev : Operand → AV}
end
end Go.Proofs.YtfmnaigedgmhoaaGreatDoor
namespace Go.Proofs.YtfmnaigedgmhoaaGreatDoor
open Go.RowKit
set_option linter.unusedSimpArgs false
set_option linter.unusedVariables false
section
variable {C : Cx} {σ : Sta} {c : Code} {Q : Exit → Sta → Prop}
theorem Gh.share {e : TypeId} {es es2 : List (List AV)} {r k : Nat} (hT : σ.T.slots[r]? = some (k, .own e es)) (hl : es2.length = es.length)
    (H : ∀ (S : Nat → Prop) (w : World) (bs : List Nat) (v : Value), Rep C.P S w bs v (.own e es) → bs.Nodup → ∃ (b bs2 : List Nat), bs2.Nodup ∧ (∀ x ∈ b, x ∈ bs ∧ x ∉ bs2) ∧ (∀ x ∈ bs2, x ∈ bs) ∧ Rep C.P (fun q => S q ∨ q ∈ b) w bs2 v (.own e es2)) :
    Gh C σ ⟨σ.env, ⟨σ.T.slots.set r (k, .own e es2), σ.T.ep⟩, σ.n⟩ := by
  intro a w ⟨hd, hn, S, vals, bss, hm, he⟩
  obtain ⟨v, bs, hv, hb, hrep⟩ := hm.slot hT
  obtain ⟨b, bs2, n2, hbb, hb2, hr3⟩ := H S w bs v hrep (hm.nodup r bs hb)
  have hrl : r < σ.T.slots.length := (List.getElem?_eq_some_iff.1 hT).1
  have hbt : ∀ (q : Nat) (b1 : List Nat), (bss.set r bs2)[q]? = some b1 → (b1 = bs2 ∧ q = r) ∨ (q ≠ r ∧ bss[q]? = some b1) := by
    intro q b1 h
    rw [getElem?_set_ _ _ _ _ (by rw [hm.nb]; exact hrl)] at h
    split at h
    · rename_i e1; injection h with h; exact .inl ⟨h.symm, e1.symm⟩
    rename_i e1; exact .inr ⟨fun e => e1 e.symm, h⟩
  have hf : Follows C.P S w σ.T vals (fun q => S q ∨ q ∈ b) w ⟨σ.T.slots.set r (k, .own e es2), σ.T.ep⟩ vals := by
    intro u x hx
    have key2 : ∀ (q kq : Nat) (x : AV), (σ.T.slots.set r (k, .own e es2))[q]? = some (kq, x) → σ.T.slots[q]? = some (kq, x) ∨ (q = r ∧ kq = k ∧ x = .own e es2) := by
      intro q kq x q1
      rw [getElem?_set_ _ _ _ _ hrl] at q1
      split at q1
      · rename_i e1; injection q1 with q1; injection q1 with q0 q1; exact .inr ⟨e1.symm, q0.symm, q1.symm⟩
      exact .inl q1
    cases x with
    | sl q kq off len => exact ⟨hx.1, hx.2.1, fun e2 es2 v2 sz2 q1 q2 q3 => by
        rcases key2 _ _ _ q1 with h | ⟨rfl, rfl, h⟩
        · exact hx.2.2 e2 es2 v2 sz2 h q2 q3
        injection h with h1 h2
        subst h1; subst h2
        rw [hl]
        exact hx.2.2 e2 es v2 sz2 hT q2 q3⟩
    | ptr q kq i2 j2 => exact ⟨hx.1, hx.2.1, fun e2 es2 v2 sz2 q1 q2 q3 => by
        rcases key2 _ _ _ q1 with h | ⟨rfl, rfl, h⟩
        · exact hx.2.2 e2 es2 v2 sz2 h q2 q3
        injection h with h1 h2
        subst h1; subst h2
        rw [hl]
        exact hx.2.2 e2 es v2 sz2 hT q2 q3⟩
    | mp q kq => exact ⟨hx.1, hx.2.1, fun b1 ks v1 q1 q2 => by
        rcases key2 _ _ _ q1 with h | ⟨rfl, rfl, h⟩
        · exact hx.2.2 b1 ks v1 h q2
        cases h⟩
    | nm => exact hx
    | byt => exact hx
    | om => exact hx
    | _ => exact RefOK.kept (T := σ.T) (vals := vals) hx (Kept.refl (fun _ => True) w) (fun _ _ _ => trivial) (fun q h => .inl h)
  refine ⟨hd, hn, fun q => S q ∨ q ∈ b, vals, bss.set r bs2, ⟨hm.kept, fun q h => .inl (hm.s0 q h), fun q h => ?_, fun q h => ?_, by simp [hm.nv], by simp [hm.nb], ?_, ?_, ?_, ?_, ?_, ?_, ?_, hm.pos⟩, fun q hq => TmpOK.follows hf (he q hq)⟩
  · rcases h with h | h
    · exact hm.sub q h
    rcases hm.mine r bs hb q (hbb q h).1 with h | h
    · exact .inr (.inl h)
    exact .inr (.inr h)
  · rcases h with h | h
    · exact hm.lt q h
    exact hm.blt hb q (hbb q h).1
  · intro q kq y u b1 q1 q2 q3
    rw [getElem?_set_ _ _ _ _ hrl] at q1
    rcases hbt q b1 q3 with ⟨rfl, rfl⟩ | ⟨hne, q4⟩
    · rw [if_pos rfl] at q1
      injection q1 with q1; injection q1 with _ q1
      subst q1
      rw [hv] at q2
      injection q2 with q2
      subst q2
      exact hr3
    rw [if_neg (fun e => hne e.symm)] at q1
    exact (hm.rep q kq y u b1 q1 q2 q4).mono fun _ _ h => .inl h
  · intro q b1 q1
    rcases hbt q b1 q1 with ⟨rfl, rfl⟩ | ⟨hne, q4⟩
    · exact n2
    exact hm.nodup q b1 q4
  · intro q q' b1 b2 hne q1 q2 x hx1 hx2
    rcases hbt q b1 q1 with ⟨rfl, rfl⟩ | ⟨hne1, q4⟩
    · rcases hbt q' b2 q2 with ⟨rfl, rfl⟩ | ⟨hne2, q5⟩
      · exact hne rfl
      exact hm.disj q q' bs b2 hne hb q5 x (hb2 x hx1) hx2
    rcases hbt q' b2 q2 with ⟨rfl, rfl⟩ | ⟨hne2, q5⟩
    · exact hm.disj q q' b1 bs hne q4 hb x hx1 (hb2 x hx2)
    exact hm.disj q q' b1 b2 hne q4 q5 x hx1 hx2
  · intro q b1 q1 x hx1 hS
    rcases hbt q b1 q1 with ⟨rfl, rfl⟩ | ⟨hne1, q4⟩
    · rcases hS with hS | hS
      · exact hm.apart q bs hb x (hb2 x hx1) hS
      exact (hbb x hS).2 hx1
    rcases hS with hS | hS
    · exact hm.apart q b1 q4 x hx1 hS
    exact hm.disj q r b1 bs hne1 q4 hb x hx1 (hbb x hS).1
  · intro q b1 q1 x hx1
    rcases hbt q b1 q1 with ⟨rfl, rfl⟩ | ⟨hne1, q4⟩
    · exact hm.mine q bs hb x (hb2 x hx1)
    exact hm.mine q b1 q4 x hx1
  · intro q y hlt q1
    rw [getElem?_set_ _ _ _ _ hrl] at q1
    split at q1
    · rename_i e1
      injection q1 with q1; injection q1 with q1 _
      subst e1
      exact hm.root r _ hlt (by rw [hT, q1])
    exact hm.root q y hlt q1
  intro q kq y q1
  rw [getElem?_set_ _ _ _ _ hrl] at q1
  split at q1
  · injection q1 with q1; injection q1 with q1 _
    rw [← q1]; exact hm.ver r k _ hT
  exact hm.ver q kq y q1
def GhE (C : Cx) (σ : Sta) (P : Value → Sta) : Prop := ∀ a w, St C σ a w → ∃ u, u.oneCell' = true ∧ St C (P u) a w
theorem AW.ghE {P : Value → Sta} (hg : GhE C σ P) (h : ∀ u, u.oneCell' = true → AW C c Q (P u)) : AW C c Q σ := fun a w hs => by
  obtain ⟨u, hu, h'⟩ := hg a w hs
  exact h u hu a w h'
theorem AWL.ghE {ops : Array Oper} {l : List Oper} {P : Value → Sta} (hg : GhE C σ P) (h : ∀ u, u.oneCell' = true → AWL C ops Q l (P u)) : AWL C ops Q l σ := fun a w hs => by
  obtain ⟨u, hu, h'⟩ := hg a w hs
  exact h u hu a w h'
/-- A cell's slice gets a slot of its own; the cell bears its name. -/
theorem GhE.unnest {e e' : TypeId} {es es' : List (List AV)} {row : List AV} {r k : Nat} (i j : Nat) (hT : σ.T.slots[r]? = some (k, .own e es)) (hrow : es[i]? = some row) (hx : row[j]? = some (.own e' es')) :
    GhE C σ fun u => ⟨σ.env, ⟨σ.T.slots.set r (k, .own e (es.set i (row.set j (.v u)))) ++ [(σ.T.ep, .nm u e' es')], σ.T.ep + 1⟩, σ.n⟩ := by
  intro a w ⟨hd, hn, S, vals, bss, hm, he⟩
  obtain ⟨v, bs, hv, hb, hrep⟩ := hm.slot hT
  obtain ⟨u, b, bs2, sz, hi, hr1, hr2, n1, n2, hbb, hb2, hcell, g0, hg0⟩ := hrep.take_cell (hm.nodup r bs hb) hrow hx
  have hrl : r < σ.T.slots.length := (List.getElem?_eq_some_iff.1 hT).1
  have hjl : j < row.length := (List.getElem?_eq_some_iff.1 hx).1
  have hil : i < es.length := (List.getElem?_eq_some_iff.1 hrow).1
  have hr3 : Rep C.P S w bs2 v (.own e (es.set i (row.set j (.v u)))) := by
    have := hr2.put_flat (i := i) (j := j) (row := row.set j (.sln es'.length)) (x' := .v u) (by simp [hil]) (x0 := .sln es'.length) (by simp [hjl]) rfl (fun u1 g sz1 hz1 hg1 hc1 => by
      have e1 := sizeIs.inj hi hz1
      subst e1
      have := hcell g hg1
      rw [this] at hc1
      injection hc1 with hc1
      subst hc1
      exact .v hr1.one)
    rwa [List.set_set, List.set_set] at this
  obtain ⟨hm1, hf1⟩ := hm.setF (k' := k) (ep' := σ.T.ep) hT hv hb (Kept.refl _ w) hr3 n2 (fun x hx' => .inl (hb2 x hx')) (.inl ⟨rfl, rfl, rfl, (fun e1 es1 he1 => by
    injection he1 with h3 h4
    subst h3; subst h4
    exact ⟨es, rfl, by simp⟩), (fun b ks h => by cases h)⟩)
  obtain ⟨hm2, hf2⟩ := hm1.pushF (Kept.refl _ w) (x := .nm u e' es') (v := u) (.nm hr1) n1 (fun x hx' => by
    obtain ⟨q1, q2⟩ := hbb x hx'
    refine ⟨fun q b1 hq hxb => ?_, hm.apart r bs hb x q1, hm.mine r bs hb x q1⟩
    rw [getElem?_set_ _ _ _ _ (by rw [hm.nb]; exact hrl)] at hq
    split at hq
    · injection hq with hq; subst hq; exact q2 hxb
    rename_i hne; exact hm.disj r q bs b1 hne hb hq x q1 hxb)
  exact ⟨u, hr1.one, hd, hn, S, _, _, hm2, fun t ht => TmpOK.follows hf2 (TmpOK.follows hf1 (he t ht))⟩
theorem nodup_put {bss : List (List Nat)} {p : Nat} {b : List Nat} (h : bss.flatten.Nodup) (hp : bss[p]? = some []) (hb : b.Nodup) (hd : ∀ x ∈ b, x ∉ bss.flatten) : (bss.set p b).flatten.Nodup ∧ ∀ x, x ∈ (bss.set p b).flatten → x ∈ bss.flatten ∨ x ∈ b := by
  have hlt := (List.getElem?_eq_some_iff.1 hp).1
  have he := (List.getElem?_eq_some_iff.1 hp).2
  have e0 : bss.flatten = (bss.take p).flatten ++ (bss.drop (p + 1)).flatten := by
    conv => lhs; rw [← List.take_append_drop p bss, List.drop_eq_getElem_cons hlt, he]
    simp
  have e1 : (bss.set p b).flatten = (bss.take p).flatten ++ (b ++ (bss.drop (p + 1)).flatten) := by
    rw [List.set_eq_take_append_cons_drop, if_pos hlt]; simp
  rw [e0, List.nodup_append] at h
  obtain ⟨h1, h2, h3⟩ := h
  rw [e0] at hd
  rw [e1, e0]
  refine ⟨List.nodup_append.2 ⟨h1, List.nodup_append.2 ⟨hb, h2, fun x hx y hy e => hd x hx (by rw [e]; simp [hy])⟩, fun x hx y hy e => ?_⟩, fun x hx => ?_⟩
  · rcases List.mem_append.1 hy with hy | hy
    · exact hd y hy (by rw [← e]; simp [hx])
    exact h3 x hx y hy e
  simp only [List.mem_append] at hx ⊢
  rcases hx with h | h | h
  · exact .inl (.inl h)
  · exact .inr h
  exact .inl (.inr h)
/-- A named slice goes back into the cell that bears its name. -/
theorem Gh.nest {e e' : TypeId} {es es' : List (List AV)} {row : List AV} {r k q kq : Nat} {u : Value} (i j : Nat) (hT : σ.T.slots[r]? = some (k, .own e es)) (hrow : es[i]? = some row) (hx : row[j]? = some (.v u)) (hq : σ.T.slots[q]? = some (kq, .nm u e' es')) (hrq : r ≠ q)
    {es2 : List (List AV)} (he2 : es.set i (row.set j (.own e' es')) = es2) : Gh C σ ⟨σ.env, ⟨(σ.T.slots.set q (kq, .any)).set r (k, .own e es2), σ.T.ep⟩, σ.n⟩ := by
  subst he2
  intro a w ⟨hd, hn, S, vals, bss, hm, he⟩
  obtain ⟨v, bs, hv, hb, hrep⟩ := hm.slot hT
  obtain ⟨vq, bq, hvq, hbq, hrepq⟩ := hm.slot hq
  have hnm : vq = u ∧ Rep C.P S w bq u (.own e' es') := by
    cases hrepq with
    | nm h => exact ⟨rfl, h⟩
  obtain ⟨rfl, hr1⟩ := hnm
  have hql : q < σ.T.slots.length := (List.getElem?_eq_some_iff.1 hq).1
  have hrl : r < σ.T.slots.length := (List.getElem?_eq_some_iff.1 hT).1
  have hjl : j < row.length := (List.getElem?_eq_some_iff.1 hx).1
  obtain ⟨us, sz, bss1, hbs, hi, hsz, hown, hul, hbl, hc⟩ := hrep.own_inv
  have hf := flat_at hsz hrow hx
  have hlt : i * sz + j < us.length := by rw [hul]; exact (List.getElem?_eq_some_iff.1 hf).1
  have h1 := List.getElem?_eq_getElem hlt
  have h2 := List.getElem?_eq_getElem (l := bss1) (by rw [hbl]; exact hlt)
  have hcell := hc _ _ _ _ h1 hf h2
  have hu := hcell.v_inv.1
  have hb0 : bss1[i * sz + j]? = some [] := by rw [h2, hcell.v_inv.2.1]
  have hnd := hm.nodup r bs hb
  rw [hbs, List.nodup_append] at hnd
  obtain ⟨m1, m2, m3⟩ := hnd
  have hdis : ∀ x ∈ bq, x ∉ bs := fun x hxb => hm.disj q r bq bs (fun h => hrq h.symm) hbq hb x hxb
  obtain ⟨p1, p2⟩ := nodup_put m2 hb0 (hm.nodup q bq hbq) (fun x hxb h => hdis x hxb (by rw [hbs]; exact List.mem_append_right _ h))
  have hrl2 := hsz row (List.mem_of_getElem? hrow)
  have hr2 : Rep C.P S w (v.ownBlock.toList ++ (bss1.set (i * sz + j) bq).flatten) v (.own e (es.set i (row.set j (.own e' es')))) := by
    refine Rep.own (us := us) hi (fun x hx' => ?_) (by rw [List.length_set]; exact hown) (by rw [set_flat hsz hrow hjl, List.length_set]; exact hul) (by rw [List.length_set]; exact hbl) fun p u1 x b q1 q2 q3 => ?_
    · rcases List.mem_or_eq_of_mem_set hx' with h' | h'
      · exact hsz x h'
      rw [h', List.length_set]; exact hrl2
    rw [set_flat hsz hrow hjl, List.getElem?_set] at q2
    rw [List.getElem?_set] at q3
    by_cases hp : i * sz + j = p
    · subst hp
      rw [if_pos rfl, if_pos (by rw [← hul]; exact hlt)] at q2
      rw [if_pos rfl, if_pos (by rw [hbl]; exact hlt)] at q3
      injection q2 with q2; injection q3 with q3
      subst q2; subst q3
      rw [h1] at q1; injection q1 with q1; subst q1
      rw [hu]
      exact hr1
    rw [if_neg hp] at q2 q3
    exact hc p u1 x b q1 q2 q3
  obtain ⟨hm1, hf1⟩ := hm.setF (k' := kq) (ep' := σ.T.ep) (x' := .any) (bs' := []) hq hvq hbq (Kept.refl _ w) (.any hr1.one) (by simp) (by simp) (.inl ⟨rfl, rfl, rfl, (fun _ _ h => by cases h), (fun _ _ h => by cases h)⟩)
  have hT1 : (σ.T.slots.set q (kq, AV.any))[r]? = some (k, .own e es) := by rw [getElem?_set_ _ _ _ _ hql, if_neg (fun h => hrq h.symm)]; exact hT
  have hv1 : (vals.set q vq)[r]? = some v := by rw [getElem?_set_ _ _ _ _ (by rw [hm.nv]; exact hql), if_neg (fun h => hrq h.symm)]; exact hv
  have hb1 : (bss.set q [])[r]? = some bs := by rw [getElem?_set_ _ _ _ _ (by rw [hm.nb]; exact hql), if_neg (fun h => hrq h.symm)]; exact hb
  obtain ⟨hm2, hf2⟩ := hm1.setF (k' := k) (ep' := σ.T.ep) hT1 hv1 hb1 (Kept.refl _ w) hr2 (List.nodup_append.2 ⟨m1, p1, fun x hx1 y hy1 e0 => by
    rcases p2 y hy1 with h | h
    · exact m3 x hx1 y h e0
    · exact hdis y h (by rw [hbs, ← e0]; exact List.mem_append_left _ hx1)⟩) (fun x hx1 => by
    have : x ∈ bs ∨ x ∈ bq := by
      rcases List.mem_append.1 hx1 with h | h
      · exact .inl (by rw [hbs]; exact List.mem_append_left _ h)
      rcases p2 x h with h | h
      · exact .inl (by rw [hbs]; exact List.mem_append_right _ h)
      exact .inr h
    rcases this with h | h
    · exact .inl h
    · refine .inr ⟨fun p b1 hp hpb hbb => ?_, hm.apart q bq hbq x h, hm.mine q bq hbq x h⟩
      rw [getElem?_set_ _ _ _ _ (by rw [hm.nb]; exact hql)] at hpb
      split at hpb
      · injection hpb with hpb; subst hpb; simp at hbb
      rename_i hne; exact hm.disj q p bq b1 hne hbq hpb x h hbb) (.inl ⟨rfl, rfl, rfl, (fun e1 es1 he1 => by
    injection he1 with h3 h4
    subst h3; subst h4
    exact ⟨es, rfl, by simp⟩), (fun b ks h => by cases h)⟩)
  exact ⟨hd, hn, S, _, _, hm2, fun t ht => TmpOK.follows hf2 (TmpOK.follows hf1 (he t ht))⟩
/-- An operation on a named slice. -/
theorem OpJ.nm {o : Oper} {env : Nat → AV} {T T' : Sl} {t r k : Nat} {u : Value} {e : TypeId} {es : List (List AV)} {x : AV} (ht : env t = .v u) (hT : T.slots[r]? = some (k, .nm u e es))
    (h : OpJ C o (evA (upd env t (.sl r T.ep 0 es.length))) ⟨T.slots.set r (T.ep, .own e es), T.ep + 1⟩ x T') : OpJ C o (evA env) T x T' := by
  intro a w S vals bss hm ho K hK Q
  obtain ⟨v, bs, hv, hb, hrep⟩ := hm.slot hT
  have hnm : v = u ∧ Rep C.P S w bs u (.own e es) := by
    cases hrep with
    | nm h => exact ⟨rfl, h⟩
  obtain ⟨rfl, hr1⟩ := hnm
  have hrl : r < T.slots.length := (List.getElem?_eq_some_iff.1 hT).1
  obtain ⟨hm1, hf1⟩ := hm.set (k' := T.ep) (ep' := T.ep + 1) hT hv hb (Kept.refl _ w) hr1 (hm.nodup r bs hb) (fun b h => .inl h) (.inr ⟨rfl, rfl⟩)
  refine h a w S _ _ hm1 (fun y hy => ?_) K (fun v2 w' S' vals' bss' q1 q2 q3 => hK v2 w' S' vals' bss' q1 (fun u x hx => q2 u x (hf1 u x hx)) q3) Q
  have h0 := TmpOK.follows hf1 (ho y hy)
  cases y with
  | tmp t' =>
    by_cases he : t' = t
    · subst he
      have e1 : evA (upd env t' (.sl r T.ep 0 es.length)) (.tmp t') = .sl r T.ep 0 es.length := by show upd env t' _ t' = _; unfold upd; rw [if_pos rfl]
      rw [e1]
      have e2 : a.eval (.tmp t') = v := by
        have := ho _ hy
        rw [show evA env (.tmp t') = .v v from ht] at this
        exact this.v
      rw [e2]
      refine ⟨Nat.lt_succ_self _, hr1.one, fun e2 es2 v2 sz2 q1 q2 q3 => ?_⟩
      rw [getElem?_set_ _ _ _ _ hrl, if_pos rfl] at q1
      rw [getElem?_set_ _ _ _ _ (by rw [hm.nv]; exact hrl), if_pos rfl] at q2
      injection q1 with q1; injection q1 with _ q1; injection q1 with q1 q4
      injection q2 with q2
      subst q1; subst q2; subst q4
      obtain ⟨us1, sz1, bss1, -, hi1, hsz1, hown1, -⟩ := hr1.own_inv
      refine ⟨by omega, ?_⟩
      rcases hown1.2 with ⟨hnil, h0'⟩ | ⟨g, cap', cur, hcap, -, -, p1, p2, -⟩
      · exact ⟨none, 0, 0, hnil, by omega, Nat.le_refl _, by unfold maxLen; omega, .inl ⟨rfl, by rw [hnil, h0']⟩⟩
      exact ⟨_, _, _, hcap, by omega, p1, p2, .inl ⟨rfl, hcap⟩⟩
    have e1 : evA (upd env t (.sl r T.ep 0 es.length)) (.tmp t') = evA env (.tmp t') := by show upd env t _ t' = env t'; unfold upd; rw [if_neg he]
    rw [e1]; exact h0
  | _ => exact h0
end
end Go.Proofs.YtfmnaigedgmhoaaGreatDoor
namespace Go.Proofs.YtfmnaigedgmhoaaGreatDoor
open Go.RowKit
set_option linter.unusedSimpArgs false
set_option linter.unusedVariables false
section
variable {C : Cx} {ops : Array Oper} {Q : Exit → Sta → Prop} {Ok : Sl → Prop}
def onB (ops : Array Oper) : Nat → Oper → Nat → Bool
  | 0, o, q => o.after.any fun e => Region.binds .any e && e.on == q
  | d + 1, o, q => (o.after.any fun e => Region.binds .any e && e.on == q) || o.after.any fun e => Region.binds .any e && match ops[e.on]? with | some o2 => onB ops d o2 q | none => false
def lastT (ops : Array Oper) (o : Oper) (i : Nat) : Bool := (List.range ops.size).all fun q => q == i || onB ops 3 o q
def Clo (ops : Array Oper) (listed : Array Bool) : Prop := ∀ j oj, ops[j]? = some oj → listed.getD j false = true → ∀ e ∈ oj.after, Region.binds .any e = true → listed.getD e.on false = true
theorem Clo.nil {n : Nat} : Clo ops (Array.replicate n false) := fun j oj _ h => by
  simp [Array.getD] at h
theorem getD_set_true {l : Array Bool} {i q : Nat} (h : l.getD q false = true) : (l.setIfInBounds i true).getD q false = true := by
  simp only [Array.getD_eq_getD_getElem?, Array.getElem?_setIfInBounds] at h ⊢
  by_cases hq : i = q
  · subst hq
    by_cases hs : i < l.size
    · simp [hs]
    rw [Array.getElem?_eq_none (by omega)] at h; cases h
  rw [if_neg hq]; exact h
theorem Clo.set {l : Array Bool} {i : Nat} (h : Clo ops l) (hr : i ∈ Region.ready .any ops l) : Clo ops (l.setIfInBounds i true) := fun j oj hj hl e he hb => by
  by_cases hij : i = j
  · subst hij
    obtain ⟨_, o, ho, hall⟩ := mem_ready.1 hr
    have : o = oj := Option.some.inj (ho.symm.trans hj)
    subst this
    exact getD_set_true (hall e he hb)
  refine getD_set_true (h j oj hj ?_ e he hb)
  simpa only [Array.getD_eq_getD_getElem?, Array.getElem?_setIfInBounds, if_neg hij] using hl
theorem onB_on {l : Array Bool} (hc : Clo ops l) : ∀ (d : Nat) {o : Oper} {q : Nat}, onB ops d o q = true → (∀ e ∈ o.after, Region.binds .any e = true → l.getD e.on false = true) → l.getD q false = true
  | 0, o, q, h, ho => by
    unfold onB at h
    obtain ⟨e, he, h⟩ := Array.any_eq_true'.1 h
    simp only [Bool.and_eq_true, beq_iff_eq] at h
    rw [← h.2]; exact ho e he h.1
  | d + 1, o, q, h, ho => by
    unfold onB at h
    rcases (Bool.or_eq_true _ _).mp h with h | h
    · obtain ⟨e, he, h⟩ := Array.any_eq_true'.1 h
      simp only [Bool.and_eq_true, beq_iff_eq] at h
      rw [← h.2]; exact ho e he h.1
    obtain ⟨e, he, h⟩ := Array.any_eq_true'.1 h
    rw [Bool.and_eq_true] at h
    cases h2 : ops[e.on]? with
    | none => rw [h2] at h; cases h.2
    | some o2 =>
      rw [h2] at h
      exact onB_on hc d h.2 fun e2 he2 hb2 => hc e.on o2 h2 (ho e he h.1) e2 he2 hb2
theorem lastT_on {o : Oper} {i q : Nat} {l : Array Bool} (h : lastT ops o i = true) (hc : Clo ops l) (ho : ∀ e ∈ o.after, Region.binds .any e = true → l.getD e.on false = true) (hq : q < ops.size) (hne : q ≠ i) : l.getD q false = true := by
  unfold lastT at h
  have h1 := List.all_eq_true.1 h q (List.mem_range.2 hq)
  rcases (Bool.or_eq_true _ _).mp h1 with h1 | h1
  · exact absurd (beq_iff_eq.1 h1) hne
  exact onB_on hc 3 h1 ho
def AE (C : Cx) (ops : Array Oper) (Q : Exit → Sta → Prop) (Ok : Sl → Prop) : Nat → Array Bool → Sta → Prop
  | 0, listed, σ => Region.ready .any ops listed = [] ∧ Q .normal σ
  | f + 1, listed, σ => Clo ops listed → (Region.ready .any ops listed = [] → Q .normal σ) ∧ ∀ i ∈ Region.ready .any ops listed, ∃ o x T', ops[i]? = some o ∧ o.guard = none ∧ opsOk o σ.n = true ∧ OpJ C o (evA σ.env) σ.T x T' ∧ (Ok T' ∨ lastT ops o i = true) ∧ AE C ops Q Ok f (listed.setIfInBounds i true) ⟨putE σ.env o.dst x, T', σ.n⟩
theorem AE.any : ∀ (f : Nat) (listed : Array Bool) (σ : Sta), Clo ops listed → AE C ops Q Ok f listed σ → AWAny C ops Q f listed σ
  | 0, _, _, _, h => AWAny.done h.1 h.2
  | f + 1, listed, σ, hc, h => by
    by_cases hr : Region.ready .any ops listed = []
    · exact AWAny.done hr ((h hc).1 hr)
    refine AWAny.all rfl hr fun i hi => ?_
    obtain ⟨o, x, T', h1, h2, h3, h4, _, h6⟩ := (h hc).2 i hi
    exact AWOp.op h1 h2 h3 h4 (AE.any f _ _ (hc.set hi) h6)
theorem AE.first {i : Nat} {oi : Oper} {x : AV} {n : Nat} {ev0 : Operand → AV} (hi : ops[i]? = some oi) (hg : oi.guard = none) (hok : opsOk oi n = true) (hj : ∀ T', Ok T' → OpJ C oi ev0 T' x T') :
    ∀ (f : Nat) (listed : Array Bool) (env : Nat → AV) (T : Sl),
      (∀ j oj, ops[j]? = some oj → j ≠ i → listed.getD j true = false → (∀ e ∈ oj.after, Region.binds .any e = true → e.on ≠ i) → oi.apart ops oj = true) →
      i ∈ Region.ready .any ops listed → (∀ y ∈ oi.op.operands, evA env y = ev0 y) → Ok T →
      AE C ops Q Ok f (listed.setIfInBounds i true) ⟨putE env oi.dst x, T, n⟩ → AE C ops Q Ok (f + 1) listed ⟨env, T, n⟩ := by
  intro f
  induction f with
  | zero =>
    intro listed env T _ hr hev hT H hc
    refine ⟨fun h => (by rw [h] at hr; cases hr), fun j hjr => ?_⟩
    by_cases hji : j = i
    · subst hji; exact ⟨oi, x, T, hi, hg, hok, (hj T hT).congr hev, .inl hT, H⟩
    have := ready_mono hjr hji
    rw [H.1] at this
    cases this
  | succ f ih =>
    intro listed env T hfree hr hev hT H hc
    have hun := (mem_ready.1 hr).1
    refine ⟨fun h => (by rw [h] at hr; cases hr), fun j hjr => ?_⟩
    by_cases hji : j = i
    · subst hji; exact ⟨oi, x, T, hi, hg, hok, (hj T hT).congr hev, .inl hT, H⟩
    obtain ⟨oj, y, T', h1, h2, h3, h4, h5, h6⟩ := (H (hc.set hr)).2 j (ready_mono hjr hji)
    obtain ⟨hjun, oj', hoj, hall⟩ := mem_ready.1 hjr
    have : oj' = oj := Option.some.inj (hoj.symm.trans h1)
    subst this
    have hnot : ∀ e ∈ oj'.after, Region.binds .any e = true → e.on ≠ i := fun e he hb heq => by
      have h1 := hall e he hb
      rw [heq, getD_both hun] at h1
      cases h1
    replace h5 : Ok T' := by
      rcases h5 with h5 | h5
      · exact h5
      have h7 := lastT_on h5 hc hall (Array.getElem?_eq_some_iff.1 hi).1 (Ne.symm hji)
      rw [getD_both hun] at h7
      cases h7
    obtain ⟨a1, a2, a3⟩ := Oper.apart_spec (hfree j oj' hoj hji hjun hnot)
    have hfree' : ∀ k ok, ops[k]? = some ok → k ≠ i → (listed.setIfInBounds j true).getD k true = false → (∀ e ∈ ok.after, Region.binds .any e = true → e.on ≠ i) → oi.apart ops ok = true := fun k ok hk hki hun hno => by
      refine hfree k ok hk hki ?_ hno
      by_cases hjk : j = k
      · subst hjk; exact hjun
      rw [getD_set_ne true hjk] at hun; exact hun
    refine ⟨oj', y, T', h1, h2, h3, h4.congr fun q hq => (evA_put a1 q hq).symm, .inl h5, ?_⟩
    refine ih _ _ _ hfree' (ready_mono hr (Ne.symm hji)) (fun q hq => (evA_put a3 q hq).trans (hev q hq)) h5 ?_
    rw [Array.setIfInBounds_comm _ _ hji]
    rw [putE_comm (fun t ht ht' => a2 t ht ht')] at h6
    exact h6
end
section
variable {C : Cx} {Q : Exit → Sta → Prop} {ops : Array Oper} {Ok : Sl → Prop} {fuel : Nat} {listed : Array Bool} {o : Oper} {env : Nat → AV} {T T' : Sl} {n : Nat} {x : AV}
theorem AW.aeo {σ : Sta} {i n : Nat} {l : List Oper} (Ok : Sl → Prop) (hm : C.P.follows .mixedOrders = true) (hn : l.toArray.size = n) (h : AE C l.toArray Q Ok n (Array.replicate n false) σ) : AW C (.region i l.toArray true) Q σ := by
  subst hn
  exact AW.region_any hm (AE.any _ _ _ Clo.nil h)
theorem aeFo (i : Nat) (hi : ops.toList[i]? = some o) (hj : ∀ T', Ok T' → OpJ C o (evA env) T' x T') (hT : Ok T) (hr : (Region.ready .any ops listed).contains i = true) (hf : Region.free .any ops listed i = true) (h : AE C ops Q Ok fuel (listed.setIfInBounds i true) ⟨putE env o.dst x, T, n⟩)
    (hg : o.guard = none := by rfl) (ho : opsOk o n = true := by rfl) : AE C ops Q Ok (fuel + 1) listed ⟨env, T, n⟩ :=
  AE.first (atL hi) hg ho hj fuel listed env T (Region.free_spec (atL hi) hf) (by simpa using hr) (fun _ _ => rfl) hT h
theorem aePo (i : Nat) (hi : ops.toList[i]? = some o) (hj : ∀ T', Ok T' → OpP C o (evA env) T' x) (hT : Ok T) (hr : (Region.ready .any ops listed).contains i = true) (hf : Region.free .any ops listed i = true) (h : AE C ops Q Ok fuel (listed.setIfInBounds i true) ⟨putE env o.dst x, T, n⟩)
    (hg : o.guard = none := by rfl) (ho : opsOk o n = true := by rfl) : AE C ops Q Ok (fuel + 1) listed ⟨env, T, n⟩ := aeFo i hi (fun T' h => (hj T' h).j) hT hr hf h hg ho
theorem aeRo (i : Nat) (hi : ops.toList[i]? = some o) (hj : ∀ T', Ok T' → OpR C o (evA env) T' x) (hT : Ok T) (hr : (Region.ready .any ops listed).contains i = true) (hf : Region.free .any ops listed i = true) (h : AE C ops Q Ok fuel (listed.setIfInBounds i true) ⟨putE env o.dst x, T, n⟩)
    (hg : o.guard = none := by rfl) (ho : opsOk o n = true := by rfl) : AE C ops Q Ok (fuel + 1) listed ⟨env, T, n⟩ := aeFo i hi (fun T' h => (hj T' h).j) hT hr hf h hg ho
/-- The only operation that may come up. -/
theorem aeJo (i : Nat) (hi : ops.toList[i]? = some o) (hj : OpJ C o (evA env) T x T') (hr : Region.ready .any ops listed = [i]) (hT : Ok T') (h : AE C ops Q Ok fuel (listed.setIfInBounds i true) ⟨putE env o.dst x, T', n⟩) (hg : o.guard = none := by rfl) (ho : opsOk o n = true := by rfl) : AE C ops Q Ok (fuel + 1) listed ⟨env, T, n⟩ :=
  fun _ => ⟨fun h0 => (by rw [hr] at h0; cases h0), fun j hj' => by
    rw [hr] at hj'
    obtain rfl : j = i := by simpa using hj'
    exact ⟨o, x, T', atL hi, hg, ho, hj, .inl hT, h⟩⟩
theorem aeDoneo (hr : Region.ready .any ops listed = []) (h : Q .normal ⟨env, T, n⟩) : AE C ops Q Ok fuel listed ⟨env, T, n⟩ := by
  cases fuel with
  | zero => exact ⟨hr, h⟩
  | succ f => exact fun _ => ⟨fun _ => h, fun i hi => by rw [hr] at hi; cases hi⟩
/-- The last one, which waits for all others. -/
theorem aeLo (i : Nat) (hi : ops.toList[i]? = some o) (hj : OpJ C o (evA env) T x T') (hr : Region.ready .any ops listed = [i]) (hl : lastT ops o i = true) (h : AE C ops Q Ok fuel (listed.setIfInBounds i true) ⟨putE env o.dst x, T', n⟩) (hg : o.guard = none := by rfl) (ho : opsOk o n = true := by rfl) : AE C ops Q Ok (fuel + 1) listed ⟨env, T, n⟩ :=
  fun _ => ⟨fun h0 => (by rw [hr] at h0; cases h0), fun j hj' => by
    rw [hr] at hj'
    obtain rfl : j = i := by simpa using hj'
    exact ⟨o, x, T', atL hi, hg, ho, hj, .inr hl, h⟩⟩
end
section
variable {C : Cx} {o : Oper} {ev : Operand → AV} {T : Sl}
/-- A new slice that is only read from the start: no slot changes. -/
theorem OpJ.frz {e : TypeId} {es : List (List AV)} {n : Nat} (h : OpJ C o ev T (.sl T.slots.length T.ep 0 n) (pushT T (.own e es))) (hx : ∀ r ∈ es, ∀ c ∈ r, flatA c = true) (hn : es.length = n) : OpJ C o ev T (.ro es) T := by
  subst hn
  intro a w S vals bss hm0 ho K hK Q
  refine h a w S vals bss hm0 ho K (fun v w' S' vals' bss' hm hf hv => ?_) Q
  have hT : (pushT T (.own e es)).slots[T.slots.length]? = some (T.ep, .own e es) := by simp [pushT]
  have hlt : ∀ r, r < T.slots.length → (pushT T (.own e es)).slots[r]? = T.slots[r]? := fun r hr => by
    show (T.slots ++ [_])[r]? = _
    rw [List.getElem?_append_left hr]
  have hle : T.slots.length ≤ (pushT T (.own e es)).slots.length := by simp [pushT]
  obtain ⟨v2, bs, hv2, hb, hrep⟩ := hm.slot hT
  obtain ⟨us, A, c, sz, hve, p1, p2, hsz, hi, hul, hcc, hcell⟩ := rep_freeze hrep hx
  have tk : ∀ {α : Type} (l : List α) (r : Nat) (x : α), (l.take T.slots.length)[r]? = some x → r < T.slots.length ∧ l[r]? = some x := fun l r x h => by
    rw [List.getElem?_take] at h
    split at h
    · exact ⟨by assumption, h⟩
    cases h
  have hup : ∀ (r k : Nat) (x : AV), T.slots[r]? = some (k, x) → (pushT T (.own e es)).slots[r]? = some (k, x) := fun r k x hr => by
    rw [hlt r (List.getElem?_eq_some_iff.1 hr).1]; exact hr
  refine hK v w' (fun q => S' q ∨ q ∈ bs) (vals'.take T.slots.length) (bss'.take T.slots.length) ⟨hm.kept, fun q h => .inl (hm.s0 q h), fun q h => ?_, fun q h => ?_, by rw [List.length_take, hm.nv]; omega, by rw [List.length_take, hm.nb]; omega,
    fun r k x v bs q1 q2 q3 => (hm.rep r k x v bs (hup _ _ _ q1) (tk _ _ _ q2).2 (tk _ _ _ q3).2).mono fun _ _ h => .inl h, fun r bs q => hm.nodup r bs (tk _ _ _ q).2, fun r r' b1 b2 hne q1 q2 => hm.disj r r' b1 b2 hne (tk _ _ _ q1).2 (tk _ _ _ q2).2, fun r b1 q b hb1 hS => ?_, fun r bs q => hm.mine r bs (tk _ _ _ q).2, fun r x hlt' q => ?_, hm0.ver, hm0.pos⟩ ?_ ?_
  · rcases h with h | h
    · exact hm.sub q h
    exact (hm.mine _ bs hb q h).elim (fun h => .inr (.inl h)) (fun h => .inr (.inr h))
  · rcases h with h | h
    · exact hm.lt q h
    exact hm.blt hb q h
  · obtain ⟨q1, q2⟩ := tk _ _ _ q
    rcases hS with hS | hS
    · exact hm.apart r b1 q2 b hb1 hS
    exact hm.disj r _ b1 bs (by omega) q2 hb b hb1 hS
  · have h1 := (List.getElem?_eq_some_iff.1 q).1
    rw [List.getElem?_take, if_pos h1]
    exact hm.root r x hlt' (hup _ _ _ q)
  · intro u x hx
    have hx' := hf u x hx
    cases x with
    | sl r k off len => exact ⟨hx.1, hx.2.1, fun e es v sz q1 q2 q3 => hx'.2.2 e es v sz (hup _ _ _ q1) (tk _ _ _ q2).2 q3⟩
    | ptr r k i j => exact ⟨hx.1, hx.2.1, fun e es v sz q1 q2 q3 => hx'.2.2 e es v sz (hup _ _ _ q1) (tk _ _ _ q2).2 q3⟩
    | mp r k => exact ⟨hx.1, hx.2.1, fun b ks v q1 q2 => hx'.2.2 b ks v (hup _ _ _ q1) (tk _ _ _ q2).2⟩
    | _ => exact RefOK.kept hx' (Kept.refl (fun _ => True) w') (fun _ _ _ => trivial) (fun _ h => .inl h)
  obtain ⟨hol, A0, nn, cap, hve2, g3, g4, g5, g6⟩ := hv.2.2 e es v2 sz hT hv2 hi
  rw [hve] at hve2
  injection hve2 with s1 s2 s3
  subst s1; subst s3
  have hu : v = .slice A es.length c := by
    rcases g6 with ⟨-, h8⟩ | ⟨A', h8, _⟩
    · exact h8
    omega
  subst hu
  refine Rep.ro (sz := sz) (us := us) p1 p2 hsz (fun hn => ?_) hul fun i u x hu hx => (hcc i u x hu hx).mono fun _ _ h => .inl h
  obtain ⟨g, r1, r2, r3⟩ := hcell hn
  exact ⟨g, 0, r1, .inr r2, fun j u hu => by rw [Nat.zero_add]; exact r3 j u hu⟩
end
end Go.Proofs.YtfmnaigedgmhoaaGreatDoor
namespace Go.Proofs.YtfmnaigedgmhoaaGreatDoor
open Go.RowKit
set_option linter.unusedSimpArgs false
set_option linter.unusedVariables false
section
variable {C : Cx} {o : Oper} {ev : Operand → AV} {T : Sl}
def OpE (C : Cx) (o : Oper) (ev : Operand → AV) (T : Sl) (p : AV → Prop) : Prop :=
  ∀ (a : Act) (w : World) (S : Nat → Prop) (vals : List Value) (bss : List (List Nat)), Mem C T S vals bss w → (∀ y ∈ o.op.operands, TmpOK C.P S w T vals (a.eval y) (ev y)) →
    ∃ v x, p x ∧ (∀ w, (execOp a.eval o).run C.P w = .ok (.value v) w) ∧ TmpOK C.P S w T vals v x
theorem Rep.aggOK {P : Program} {S : Nat → Prop} {w : World} {T : Sl} {vals : List Value} {u : Value} {x : AV} (h : Rep P S w [] u x) : AggOK P S w T vals u x := by
  cases x with
  | any => trivial
  | agg cs => exact absurd rfl (Rep.plain h cs).1
  | _ => exact h.ref (T := T) (vals := vals)
/-- What is read and no reference. -/
def repA : AV → Bool
  | .v _ => true
  | .ro _ => true
  | .rof _ => true
  | .rop _ => true
  | .clo _ _ => true
  | .bm _ _ => true
  | _ => false
theorem TmpOK.repA {P : Program} {S : Nat → Prop} {w : World} {T : Sl} {vals : List Value} {u : Value} {x : AV} (h : TmpOK P S w T vals u x) (hx : repA x = true) : Rep P S w [] u x := by
  cases x <;> first | exact h | cases hx
theorem op_makeFunc {f : FuncId} {caps : Array Operand} {xs : List AV} (ho : o.op = .makeFunc (.func f) #[] caps) (hc : caps.toList.map ev = xs) (hx : xs.all repA = true) : OpP C o ev T (.clo f xs) := by
  subst hc
  intro a w S vals bss hm h
  refine ⟨.func (.func f) #[] (caps.toList.map a.eval).toArray, fun w => ?_, ?_⟩
  · have e1 : (caps.map a.eval) = (caps.toList.map a.eval).toArray := by apply Array.toList_inj.1; simp
    simp [execOp, ho, Instr.makeFunc, ← e1]
  refine (show Rep C.P S w [] _ (.clo f _) from Rep.clo (by simp) fun i u x hu hx' => ?_)
  rw [List.getElem?_map] at hu hx'
  cases hq : caps.toList[i]? with
  | none => rw [hq] at hu; cases hu
  | some y =>
    rw [hq] at hu hx'
    injection hu with hu; subst hu
    injection hx' with hx'; subst hx'
    have hy : y ∈ caps := by simpa using List.mem_of_getElem? hq
    refine TmpOK.repA (h y (by simp [ho, Op.operands]; exact hy)) ?_
    exact List.all_eq_true.1 hx _ (List.mem_map.2 ⟨y, by simpa using hy, rfl⟩)
theorem Rep.clo_inv {P : Program} {S : Nat → Prop} {w : World} {bs : List Nat} {u : Value} {f : FuncId} {caps : List AV} (h : Rep P S w bs u (.clo f caps)) : ∃ us : List Value, u = .func (.func f) #[] us.toArray ∧ us.length = caps.length ∧ ∀ (i : Nat) (u : Value) (x : AV), us[i]? = some u → caps[i]? = some x → Rep P S w [] u x := by
  cases h with
  | clo h1 h2 => exact ⟨_, rfl, h1, h2⟩
theorem op_cloQ {f : FuncId} {p : Operand} {args : Array Operand} {ts : Array TypeId} {b : Bool} {ev : Operand → AV} {xs caps : List AV} {y : Value} (ho : o.op = .call { callee := .value p, args := args, argTypes := ts }) (hp : ev p = .clo f caps) (hf : Enters C.P f) (hsp : Fn C.P f [] (xs ++ caps) [.v y] []) (hv : RL (View T b) (args.toList.map ev) xs) (hx : y.oneCell' = true) : OpQ C o ev T (.v y) := by
  intro a w S vals bss hm h
  refine ⟨y, fun w' hk => ?_, TmpOK.v_ hx⟩
  have hp1 := h p (by simp [ho, Op.operands, Call.operands])
  rw [hp] at hp1
  obtain ⟨us, hfv, hul, hur⟩ := (show Rep C.P S w [] _ (.clo f caps) from hp1).clo_inv
  have hargs : ∀ y ∈ args, TmpOK C.P S w' T vals (a.eval y) (ev y) := fun y hy => TmpOK.follows (Follows.kept hk (fun _ _ _ => trivial) fun _ h => h) (h y (by simp [ho, Op.operands, Call.operands]; exact .inr hy))
  have hcame := came0 (hm.grow hk) hv hargs
  have hcaps : RL (AggOK C.P (lent b S bss) w' (insT []) []) us caps := ⟨hul, fun i u x h1 h2 => (((hur i u x h1 h2).kept hk (fun _ _ _ => trivial) (by simp)).mono fun k _ hk => .inl hk).aggOK⟩
  have hc := hsp w' (lent b S bss) [] [] (args.toList.map a.eval ++ us) { hcame with args := hcame.args.append hcaps }
  have hrun : (execOp a.eval o).run C.P w' = .ok (.enter f (args.toList.map a.eval ++ us).toArray) w' := by
    have e1 : (args.map a.eval ++ us.toArray) = (args.toList.map a.eval ++ us).toArray := by apply Array.toList_inj.1; simp
    simp only [execOp, ho, resolve, hfv, Deferred.ofValue, Sem.run_bind, Sem.run_pure, Result.andThen_ok, invoke]
    rw [← e1]
    simpa using hf _ w'
  unfold Oper.quietAt
  rw [hrun]
  refine ⟨rfl, hc.mono ?_⟩
  rintro e w'' ⟨us, ys', outs, bsr, bss', rfl, went, rfl, rfl⟩
  have hk2 : Kept (fun _ => True) w' w'' := went.kept.mono fun k _ _ ⟨r, bs, h, _⟩ => by simp at h
  refine ⟨?_, hk.trans hk2⟩
  match us, went.nu with
  | [u], _ =>
    have hr := went.res 0 u (.v y) (bsr[0]'(by rw [went.nr]; simp)) rfl rfl (List.getElem?_eq_getElem _)
    rcases hr with h | ⟨_, h⟩
    · rw [retV, h.v_inv.1]
    rw [retV, (show Rep C.P _ w'' [] u (.v y) from h).v_inv.1]
end
section
variable {C : Cx} {o : Oper} {ev : Operand → AV} {T : Sl}
end
end Go.Proofs.YtfmnaigedgmhoaaGreatDoor
namespace Go.Proofs.YtfmnaigedgmhoaaGreatDoor
open Go.RowKit
set_option linter.unusedSimpArgs false
set_option linter.unusedVariables false
section
variable {C : Cx} {o : Oper} {ev : Operand → AV} {T : Sl}
end
section
variable {P : Program} {fn : Func} {σ : Sta} {e : Exit}
end
section
variable {C : Cx} {σ : Sta} {Q : Exit → Sta → Prop}
/-- A box is only read from now on. -/
theorem Gh.freezeP {e : TypeId} {row : List AV} {r k : Nat} (t : Nat) (ht : t < σ.n) (hv : σ.env t = .ptr r k 0 0) (hT : σ.T.slots[r]? = some (k, .own e [row])) (hx : ∀ c ∈ row, flatA c = true) :
    Gh C σ ⟨upd σ.env t (.rop row), ⟨σ.T.slots.set r (k, .any), σ.T.ep⟩, σ.n⟩ := by
  generalize hes : [row] = es at hT
  replace hx : ∀ r ∈ es, ∀ c ∈ r, flatA c = true := fun r hr => by rw [← hes] at hr; rw [List.mem_singleton.1 hr]; exact hx
  intro a w ⟨hd, hn, S, vals, bss, hm, he⟩
  obtain ⟨v, bs, hv2, hb, hrep⟩ := hm.slot hT
  obtain ⟨us, A, c, sz, hve, p1, p2, hsz, hi, hul, hcc, hcell⟩ := rep_freeze hrep hx
  have hrl : r < σ.T.slots.length := (List.getElem?_eq_some_iff.1 hT).1
  have hSS : ∀ q, S q → S q ∨ q ∈ bs := fun q h => .inl h
  have hf : Follows C.P S w σ.T vals (fun q => S q ∨ q ∈ bs) w ⟨σ.T.slots.set r (k, .any), σ.T.ep⟩ vals := by
    intro u x hx
    have key2 : ∀ (q kq : Nat) (x : AV), (σ.T.slots.set r (k, .any))[q]? = some (kq, x) → x ≠ .any → σ.T.slots[q]? = some (kq, x) := by
      intro q kq x q1 hne
      rw [getElem?_set_ _ _ _ _ hrl] at q1
      split at q1
      · injection q1 with q1; injection q1 with _ q1; exact absurd q1.symm hne
      exact q1
    cases x with
    | sl r k off len => exact ⟨hx.1, hx.2.1, fun e es v sz q1 q2 q3 => hx.2.2 e es v sz (key2 _ _ _ q1 (by simp)) q2 q3⟩
    | ptr r k i j => exact ⟨hx.1, hx.2.1, fun e es v sz q1 q2 q3 => hx.2.2 e es v sz (key2 _ _ _ q1 (by simp)) q2 q3⟩
    | mp r k => exact ⟨hx.1, hx.2.1, fun b ks v q1 q2 => hx.2.2 b ks v (key2 _ _ _ q1 (by simp)) q2⟩
    | _ => exact RefOK.kept (T := σ.T) (vals := vals) hx (Kept.refl (fun _ => True) w) (fun _ _ _ => trivial) hSS
  have hbt : ∀ (q : Nat) (b1 : List Nat), (bss.set r [])[q]? = some b1 → (b1 = [] ∧ q = r) ∨ (q ≠ r ∧ bss[q]? = some b1) := by
    intro q b1 h
    rw [getElem?_set_ _ _ _ _ (by rw [hm.nb]; exact hrl)] at h
    split at h
    · rename_i e1; injection h with h; exact .inl ⟨h.symm, e1.symm⟩
    rename_i e1; exact .inr ⟨fun e => e1 e.symm, h⟩
  refine ⟨hd, hn, fun q => S q ∨ q ∈ bs, vals, bss.set r [], ⟨hm.kept, fun q h => .inl (hm.s0 q h), fun q h => ?_, fun q h => ?_, by simp [hm.nv], by simp [hm.nb], ?_, ?_, ?_, ?_, ?_, ?_, ?_, hm.pos⟩, fun q hq => ?_⟩
  · rcases h with h | h
    · exact hm.sub q h
    rcases hm.mine r bs hb q h with h | h
    · exact .inr (.inl h)
    exact .inr (.inr h)
  · rcases h with h | h
    · exact hm.lt q h
    exact hm.blt hb q h
  · intro q kq y u b1 q1 q2 q3
    rw [getElem?_set_ _ _ _ _ hrl] at q1
    rcases hbt q b1 q3 with ⟨rfl, rfl⟩ | ⟨hne, q4⟩
    · rw [if_pos rfl] at q1
      injection q1 with q1; injection q1 with _ q1
      subst q1
      rw [hv2] at q2
      injection q2 with q2
      subst q2
      exact .any hrep.one
    rw [if_neg (fun e => hne e.symm)] at q1
    exact (hm.rep q kq y u b1 q1 q2 q4).mono fun _ _ h => .inl h
  · intro q b1 q1
    rcases hbt q b1 q1 with ⟨rfl, rfl⟩ | ⟨hne, q4⟩
    · simp
    exact hm.nodup q b1 q4
  · intro q q' b1 b2 hne q1 q2 b hb1 hb2
    rcases hbt q b1 q1 with ⟨rfl, rfl⟩ | ⟨hne1, q4⟩
    · simp at hb1
    rcases hbt q' b2 q2 with ⟨rfl, rfl⟩ | ⟨hne2, q5⟩
    · simp at hb2
    exact hm.disj q q' b1 b2 hne q4 q5 b hb1 hb2
  · intro q b1 q1 b hb1 hS
    rcases hbt q b1 q1 with ⟨rfl, rfl⟩ | ⟨hne1, q4⟩
    · simp at hb1
    rcases hS with hS | hS
    · exact hm.apart q b1 q4 b hb1 hS
    exact hm.disj q r b1 bs hne1 q4 hb b hb1 hS
  · intro q b1 q1 b hb1
    rcases hbt q b1 q1 with ⟨rfl, rfl⟩ | ⟨hne1, q4⟩
    · simp at hb1
    exact hm.mine q b1 q4 b hb1
  · intro q y hlt q1
    rw [getElem?_set_ _ _ _ _ hrl] at q1
    split at q1
    · rename_i e1
      injection q1 with q1; injection q1 with q1 _
      subst e1
      exact hm.root r _ hlt (by rw [hT, q1])
    exact hm.root q y hlt q1
  · intro q kq y q1
    rw [getElem?_set_ _ _ _ _ hrl] at q1
    split at q1
    · injection q1 with q1; injection q1 with q1 _
      rw [← q1]; exact hm.ver r k _ hT
    exact hm.ver q kq y q1
  show TmpOK _ _ _ _ _ _ (upd σ.env t _ q)
  unfold upd
  by_cases h : q = t
  · subst h
    rw [if_pos rfl]
    have h1 := he q hq
    rw [hv] at h1
    obtain ⟨hol, g0, nn, cap, hve2, hpe⟩ := h1.2.2 e es v sz hT hv2 hi
    rw [hve] at hve2
    injection hve2 with s1 s2 s3
    subst s1
    have hpe : a.tmps.getD q undef = .pointer (some ⟨g0, 0 * sz + 0, none⟩) := hpe
    rw [hpe]
    subst hes
    have hfl : ([row] : List (List AV)).flatten = row := by simp
    rw [hfl] at hul hcc
    refine (show Rep C.P _ w [] _ (.rop row) from Rep.rop (us := us) (fun hn => ?_) hul fun i u x hu hx => (hcc i u x hu hx).mono fun _ _ h => .inl h)
    obtain ⟨g, r1, r2, r3⟩ := hcell hn
    injection r1 with r1
    injection r1 with r1
    subst r1
    exact ⟨g0, 0 * sz + 0, rfl, .inr r2, fun j u hu => by rw [Nat.zero_mul, Nat.zero_add]; exact r3 j u hu⟩
  rw [if_neg h]
  exact TmpOK.follows hf (he q hq)
/-- What comes behind x is walked once, however x ends; i says in which state. -/
theorem AW.join {ι : Type} {x y : Code} (l : ι → List (Nat × AV)) (T : ι → Sl) (H : ι → Prop) (h1 : AW C x (thenE (fun σ' => ∃ i, H i ∧ AllEq σ'.env (l i) ∧ σ'.T = T i ∧ σ'.n = σ.n) Q) σ) (h2 : ∀ i ρ, H i → AW C y Q ⟨updL ρ (l i), T i, σ.n⟩) : AW C (.seq x y) Q σ := by
  refine AW.seq (h1.mono fun e σ' h => ?_)
  cases e with
  | normal =>
    obtain ⟨i, g1, g2, g3, g4⟩ := h
    have := h2 i σ'.env g1
    rw [updL_self g2, ← g3, ← g4] at this
    exact this
  | _ => exact h
theorem Gh.trans {σ' σ'' : Sta} (h : Gh C σ σ') (h' : Gh C σ' σ'') : Gh C σ σ'' := fun a w hs => h' a w (h a w hs)
theorem Gh.refl : Gh C σ σ := fun _ _ h => h
end
end Go.Proofs.YtfmnaigedgmhoaaGreatDoor
namespace Go.Proofs.YtfmnaigedgmhoaaGreatDoor
open Go.RowKit
set_option linter.unusedSimpArgs false
set_option linter.unusedVariables false
theorem elem_eqA {P : Program} {t e : TypeId} {n : Nat} (h : P.underlying t = some (.array n e)) : P.elem t = e ∧ P.arrayLen t = n := by simp [Program.elem, Program.arrayLen, h]
section
variable {C : Cx} {o : Oper} {ev : Operand → AV} {T : Sl}
/-- The address of an element of an array (of at least two) in a slot. -/
theorem op_ia_arr {t e : TypeId} {y q : Operand} {kk : IntKind} {n : Int} {r k i j len : Nat} {e0 : TypeId} {es : List (List AV)} (m : Nat) (sz : Nat) (ho : o.op = .indexAddr t y q) (hy : ev y = .ptr r k i j) (hi : ev q = .v (.int kk n))
    (hT : T.slots[r]? = some (k, .own e0 es)) (ht : C.P.underlying t = some (.array len e)) (hn : n = (m : Int)) (hm : m < len) (hs : sizeIs C.P e sz) {j' : Nat} (hj : j + m * sz = j') : OpP C o ev T (.ptr r k i j') := by
  intro a w S vals bss hme h
  have h1 := h y (by simp [ho, Op.operands])
  have h2 := h q (by simp [ho, Op.operands])
  rw [hi] at h2
  rw [hy] at h1
  obtain ⟨v, bs, hv, hb, hrep⟩ := hme.slot hT
  obtain ⟨us, sz', bss', -, hi0, -, -, -, -, -⟩ := hrep.own_inv
  obtain ⟨hil, g, m', cap, hve, e'⟩ := h1.2.2 e0 es v sz' hT hv hi0
  have hee := elem_eqA ht
  subst hn
  have hlt : (m : Int) < (len : Int) := by omega
  refine ⟨.pointer (some ⟨g, i * sz' + j + m * sz, none⟩), fun w => ?_, ⟨h1.1, rfl, ?_⟩⟩
  · simp [execOp, ho, e', h2.v, run_indexAt_array w t _ _ _ (by rw [hee.1, hee.2]; exact ht), hlt, hee.1, hee.2, run_sizeOf hs, add_off]
  intro e2 es2 v2 sz2 hT2 hv2 hi2
  rw [hT] at hT2
  injection hT2 with hT2
  injection hT2 with _ hT2
  injection hT2 with h3 h4
  subst h3; subst h4
  rw [hv] at hv2
  injection hv2 with hv2
  subst hv2
  have := hi0.inj hi2
  subst this
  exact ⟨hil, g, m', cap, hve, by rw [← hj, Nat.add_assoc]⟩
def isV : AV → Bool
  | .v x => x.oneCell'
  | _ => false
def vOf : AV → Value
  | .v x => x
  | _ => undef
theorem isV_eq {cs : List AV} (h : cs.all isV = true) {i : Nat} {c : AV} (hc : cs[i]? = some c) : c = .v (vOf c) ∧ (vOf c).oneCell' = true := by
  have := List.all_eq_true.1 h c (List.mem_of_getElem? hc)
  cases c <;> first | exact ⟨rfl, this⟩ | cases this
/-- A call that only reads and gives a datum of known cells. -/
theorem op_callQA {f : FuncId} {args : Array Operand} {ts : Array TypeId} {b : Bool} {xs cs : List AV} (ho : o.op = .call { callee := .value (.func f), args := args, argTypes := ts }) (hf : Enters C.P f) (hsp : Fn C.P f [] xs [.agg cs] []) (hv : RL (View T b) (args.toList.map ev) xs) (hx : cs.all isV = true) : OpQ C o ev T (.agg cs) := by
  intro a w S vals bss hm h
  refine ⟨.agg (cs.map vOf).toArray, fun w' hk => ?_, ⟨_, rfl, by simp, fun i u x hu hc => ?_⟩⟩
  · have hargs : ∀ y ∈ args, TmpOK C.P S w' T vals (a.eval y) (ev y) := fun y hy => TmpOK.follows (Follows.kept hk (fun _ _ _ => trivial) fun _ h => h) (h y (by simp [ho, Op.operands, Call.operands]; exact .inr hy))
    have hc := hsp w' (lent b S bss) [] [] _ (came0 (hm.grow hk) hv hargs)
    have hrun : (execOp a.eval o).run C.P w' = .ok (.enter f (args.toList.map a.eval).toArray) w' := by
      have e1 : (args.map a.eval) = (args.toList.map a.eval).toArray := by apply Array.toList_inj.1; simp
      simp only [execOp, ho, resolve, Act.eval, Deferred.ofValue, Sem.run_bind, Sem.run_pure, Result.andThen_ok, invoke]
      rw [← e1]
      simpa using hf _ w'
    unfold Oper.quietAt
    rw [hrun]
    refine ⟨rfl, hc.mono ?_⟩
    rintro e w'' ⟨us, ys', outs, bsr, bss', rfl, went, rfl, rfl⟩
    have hk2 : Kept (fun _ => True) w' w'' := went.kept.mono fun k _ _ ⟨r, bs, h, _⟩ => by simp at h
    refine ⟨?_, hk.trans hk2⟩
    match us, went.nu with
    | [u], _ =>
      have hr := went.res 0 u (.agg cs) (bsr[0]'(by rw [went.nr]; simp)) rfl rfl (List.getElem?_eq_getElem _)
      rcases hr with h | ⟨_, h⟩
      · exact absurd rfl (Rep.plain h cs).1
      obtain ⟨vs, rfl, hl, hr⟩ := (show ∃ us, u = .agg us ∧ RL _ us.toList cs from h)
      refine congrArg (fun x => Ending.returned (Value.agg x)) (Array.toList_inj.1 ?_)
      apply List.ext_getElem?
      intro i
      rw [List.getElem?_map]
      cases hc : cs[i]? with
      | none => rw [List.getElem?_eq_none (by rw [hl]; exact List.getElem?_eq_none_iff.1 hc)]; rfl
      | some c =>
        obtain ⟨ec, -⟩ := isV_eq hx hc
        have hi : i < vs.toList.length := by rw [hl]; exact (List.getElem?_eq_some_iff.1 hc).1
        have h1 := hr i _ c (List.getElem?_eq_getElem hi) hc
        rw [ec] at h1
        rw [List.getElem?_eq_getElem hi, (show Rep C.P _ w'' [] _ (.v (vOf c)) from h1).v_inv.1]
        rfl
  rw [List.getElem?_map, hc] at hu
  injection hu with hu
  obtain ⟨ec, h1⟩ := isV_eq hx hc
  rw [ec]
  subst hu
  exact Rep.v h1
end
end Go.Proofs.YtfmnaigedgmhoaaGreatDoor
namespace Go.Proofs.YtfmnaigedgmhoaaGreatDoor
open Go.RowKit
set_option linter.unusedSimpArgs false
set_option linter.unusedVariables false
section
variable {C : Cx} {ops : Array Oper} {Q : Exit → Sta → Prop} {Ok : Sl → Prop} {k : Nat}
def bindB (o : Oper) (i : Nat) : Bool := o.after.any fun e => Region.binds .any e && e.on == i
def bindAt (ops : Array Oper) (q i : Nat) : Bool := match ops[q]? with | some o => bindB o i | none => false
def topB (ops : Array Oper) (k : Nat) : Bool := (List.range k).all fun i => ((List.range k).any fun q => decide (i < q) && bindAt ops q i) || (List.range ops.size).all fun j => decide (j < k) || bindAt ops j i || (List.range j).any fun q => decide (k ≤ q) && bindAt ops j q
def dcB (ops : Array Oper) (listed : Array Bool) : Bool := (List.range ops.size).all fun q => !listed.getD q true || (match ops[q]? with | some o => o.after.all fun e => !Region.binds .any e || listed.getD e.on true | none => true)
def DCl (ops : Array Oper) (listed : Array Bool) : Prop := ∀ q o, ops[q]? = some o → listed.getD q true = true → ∀ e ∈ o.after, Region.binds .any e = true → listed.getD e.on true = true
theorem bindB_spec {o : Oper} {i : Nat} (h : bindB o i = true) : ∃ e ∈ o.after, Region.binds .any e = true ∧ e.on = i := by
  unfold bindB at h
  rw [Array.any_eq_true'] at h
  obtain ⟨e, he, h⟩ := h
  simp only [Bool.and_eq_true, beq_iff_eq] at h
  exact ⟨e, he, h.1, h.2⟩
theorem top_all {listed : Array Bool} (ht : topB ops k = true) (hd : DCl ops listed) : ∀ (m j : Nat) {oj : Oper}, j = m → ops[j]? = some oj → k ≤ j → (∀ e ∈ oj.after, Region.binds .any e = true → listed.getD e.on true = true) →
    ∀ n i, i < k → k - i = n → listed.getD i true = true := by
  intro m
  induction m using Nat.strongRecOn with
  | _ m ihm =>
  intro j oj hjm hj hkj hr n
  subst hjm
  induction n using Nat.strongRecOn with
  | _ n ih =>
    intro i hi hn
    have ht0 := ht
    unfold topB at ht0
    have := List.all_eq_true.1 ht0 i (List.mem_range.2 hi)
    simp only [Bool.or_eq_true] at this
    rcases this with h | h
    · obtain ⟨q, hq, h⟩ := List.any_eq_true.1 h
      simp only [Bool.and_eq_true, decide_eq_true_eq] at h
      have hqk := List.mem_range.1 hq
      have hql := ih (k - q) (by omega) q hqk rfl
      have h2 := h.2
      unfold bindAt at h2
      cases ho : ops[q]? with
      | none => rw [ho] at h2; cases h2
      | some o =>
        rw [ho] at h2
        obtain ⟨e, he, hb, rfl⟩ := bindB_spec h2
        exact hd q o ho hql e he hb
    have h2 := List.all_eq_true.1 h j (List.mem_range.2 (Array.getElem?_eq_some_iff.1 hj).1)
    simp only [Bool.or_eq_true, decide_eq_true_eq] at h2
    rcases h2 with (h2 | h2) | h2
    · omega
    · unfold bindAt at h2
      rw [hj] at h2
      obtain ⟨e, he, hb, rfl⟩ := bindB_spec h2
      exact hr e he hb
    obtain ⟨q, hq, h⟩ := List.any_eq_true.1 h2
    simp only [Bool.and_eq_true, decide_eq_true_eq] at h
    have hqj := List.mem_range.1 hq
    have h3 := h.2
    unfold bindAt at h3
    rw [hj] at h3
    obtain ⟨e, he, hb, rfl⟩ := bindB_spec h3
    have hel := hr e he hb
    have hlt : e.on < ops.size := by have := (Array.getElem?_eq_some_iff.1 hj).1; omega
    exact ihm e.on hqj e.on rfl (Array.getElem?_eq_getElem hlt) h.1 (fun e' he' hb' => hd e.on _ (Array.getElem?_eq_getElem hlt) hel e' he' hb') (k - i) i hi rfl
def ADk (C : Cx) (ops : Array Oper) (Q : Exit → Sta → Prop) (Ok : Sl → Prop) (k : Nat) : Nat → Array Bool → Sta → Prop
  | 0, listed, σ => Region.ready .any ops listed = [] ∧ Q .normal σ
  | f + 1, listed, σ => (Region.ready .any ops listed = [] → Q .normal σ) ∧ ∀ i ∈ Region.ready .any ops listed, ∃ o x T', ops[i]? = some o ∧ o.guard = none ∧ opsOk o σ.n = true ∧ OpJ C o (evA σ.env) σ.T x T' ∧ (Ok T' ∨ k ≤ i) ∧ ADk C ops Q Ok k f (listed.setIfInBounds i true) ⟨putE σ.env o.dst x, T', σ.n⟩
theorem ADk.any : ∀ (f : Nat) (listed : Array Bool) (σ : Sta), ADk C ops Q Ok k f listed σ → AWAny C ops Q f listed σ
  | 0, _, _, h => AWAny.done h.1 h.2
  | f + 1, listed, σ, h => by
    by_cases hr : Region.ready .any ops listed = []
    · exact AWAny.done hr (h.1 hr)
    refine AWAny.all rfl hr fun i hi => ?_
    obtain ⟨o, x, T', h1, h2, h3, h4, _, h6⟩ := h.2 i hi
    exact AWOp.op h1 h2 h3 h4 (ADk.any f _ _ h6)
theorem ADk.first {i : Nat} {oi : Oper} {x : AV} {n : Nat} {ev0 : Operand → AV} (hik : i < k) (ht : topB ops k = true) (hi : ops[i]? = some oi) (hg : oi.guard = none) (hok : opsOk oi n = true) (hj : ∀ T', Ok T' → OpJ C oi ev0 T' x T') :
    ∀ (f : Nat) (listed : Array Bool) (env : Nat → AV) (T : Sl),
      DCl ops listed →
      (∀ j oj, ops[j]? = some oj → j ≠ i → listed.getD j true = false → (∀ e ∈ oj.after, Region.binds .any e = true → e.on ≠ i) → oi.apart ops oj = true) →
      i ∈ Region.ready .any ops listed → (∀ y ∈ oi.op.operands, evA env y = ev0 y) → Ok T →
      ADk C ops Q Ok k f (listed.setIfInBounds i true) ⟨putE env oi.dst x, T, n⟩ → ADk C ops Q Ok k (f + 1) listed ⟨env, T, n⟩ := by
  intro f
  induction f with
  | zero =>
    intro listed env T _ _ hr hev hT H
    refine ⟨fun h => (by rw [h] at hr; cases hr), fun j hjr => ?_⟩
    by_cases hji : j = i
    · subst hji; exact ⟨oi, x, T, hi, hg, hok, (hj T hT).congr hev, .inl hT, H⟩
    have := ready_mono hjr hji
    rw [H.1] at this
    cases this
  | succ f ih =>
    intro listed env T hdc hfree hr hev hT H
    have hun := (mem_ready.1 hr).1
    refine ⟨fun h => (by rw [h] at hr; cases hr), fun j hjr => ?_⟩
    by_cases hji : j = i
    · subst hji; exact ⟨oi, x, T, hi, hg, hok, (hj T hT).congr hev, .inl hT, H⟩
    obtain ⟨oj, y, T', h1, h2, h3, h4, h5, h6⟩ := H.2 j (ready_mono hjr hji)
    obtain ⟨hjun, oj', hoj, hall⟩ := mem_ready.1 hjr
    have : oj' = oj := Option.some.inj (hoj.symm.trans h1)
    subst this
    have hnot : ∀ e ∈ oj'.after, Region.binds .any e = true → e.on ≠ i := fun e he hb heq => by
      have h1 := hall e he hb
      rw [heq, getD_both hun] at h1
      cases h1
    have hready : ∀ e ∈ oj'.after, Region.binds .any e = true → listed.getD e.on true = true := fun e he hb => by
      have := hall e he hb
      cases hq : listed.getD e.on true with
      | true => rfl
      | false => rw [getD_both hq] at this; cases this
    replace h5 : Ok T' := by
      rcases h5 with h5 | h5
      · exact h5
      have := top_all ht hdc j j rfl h1 h5 hready _ i hik rfl
      rw [this] at hun
      cases hun
    obtain ⟨a1, a2, a3⟩ := Oper.apart_spec (hfree j oj' hoj hji hjun hnot)
    have hfree' : ∀ k ok, ops[k]? = some ok → k ≠ i → (listed.setIfInBounds j true).getD k true = false → (∀ e ∈ ok.after, Region.binds .any e = true → e.on ≠ i) → oi.apart ops ok = true := fun k ok hk hki hun hno => by
      refine hfree k ok hk hki ?_ hno
      by_cases hjk : j = k
      · subst hjk; exact hjun
      rw [getD_set_ne true hjk] at hun; exact hun
    have hdc' : DCl ops (listed.setIfInBounds j true) := fun q o ho hq e he hb => by
      by_cases hje : j = e.on
      · rw [← hje]
        by_cases hs : j < listed.size
        · simp [Array.getD_eq_getD_getElem?, hs]
        simp [Array.getD_eq_getD_getElem?, hs]
      rw [getD_set_ne true hje]
      by_cases hjq : j = q
      · subst hjq
        have : o = oj' := Option.some.inj (ho.symm.trans hoj)
        subst this
        exact hready e he hb
      rw [getD_set_ne true hjq] at hq
      exact hdc q o ho hq e he hb
    refine ⟨oj', y, T', h1, h2, h3, h4.congr fun q hq => (evA_put a1 q hq).symm, .inl h5, ?_⟩
    refine ih _ _ _ hdc' hfree' (ready_mono hr (Ne.symm hji)) (fun q hq => (evA_put a3 q hq).trans (hev q hq)) h5 ?_
    rw [Array.setIfInBounds_comm _ _ hji]
    rw [putE_comm (fun t ht ht' => a2 t ht ht')] at h6
    exact h6
variable {fuel : Nat} {listed : Array Bool} {o : Oper} {env : Nat → AV} {T T' : Sl} {n : Nat} {x : AV}
end
section
variable {C : Cx} {o : Oper} {ev : Operand → AV} {T : Sl} {t : TypeId} {p : Operand} {x : Int}
end
end Go.Proofs.YtfmnaigedgmhoaaGreatDoor
namespace Go.Proofs.YtfmnaigedgmhoaaGreatDoor
open Go.RowKit
set_option linter.unusedSimpArgs false
set_option linter.unusedVariables false
set_option linter.unusedSectionVars false
section
variable {C : Cx} {T : Sl} {S : Nat → Prop} {vals : List Value} {bss : List (List Nat)} {w : World}
end
section
variable {C : Cx} {Q : Exit → Sta → Prop} {σ : Sta}
end
section
open Go.Sort
variable {α : Type} [Inhabited α] {enc : α → Value}
def rowE (enc : α → Value) (x : α) : List AV := [.v (enc x)]
def sortN (lt : α → α → Bool) (ds : List α) : List α := if ds.length ≤ 1 then ds else (Sort.insertionSort lt ds.toArray 0 ds.toArray.size).toList
end
section
open Go.Sort
variable {C : Cx} {o : Oper} {ev : Operand → AV} {T : Sl} {α : Type} [Inhabited α] {enc : α → Value}
end
section
variable {C : Cx} {σ : Sta}
end
section
variable {C : Cx} {o : Oper} {ev : Operand → AV} {T : Sl}
theorem mem_at (h0 : 0 < T.ep) {S : Nat → Prop} {vals : List Value} {bss : List (List Nat)} {w : World} {r k0 : Nat} {y : AV} (hT : T.slots[r]? = some (k0, .any)) (hm : Mem C (pushT T y) S vals bss w) :
    ∃ vals' bss', Mem C ⟨T.slots.set r (T.ep, y), T.ep + 1⟩ S vals' bss' w ∧ vals'[r]? = vals[T.slots.length]? ∧ ∀ q, q < T.slots.length → q ≠ r → vals'[q]? = vals[q]? := by
  have hrl : r < T.slots.length := (List.getElem?_eq_some_iff.1 hT).1
  have hL : (pushT T y).slots[T.slots.length]? = some (T.ep, y) := by simp [pushT]
  have hup : ∀ q, q < T.slots.length → (pushT T y).slots[q]? = T.slots[q]? := fun q hq => by
    show (T.slots ++ [_])[q]? = _
    rw [List.getElem?_append_left hq]
  have hnv : vals.length = T.slots.length + 1 := by rw [hm.nv]; simp [pushT]
  have hnb : bss.length = T.slots.length + 1 := by rw [hm.nb]; simp [pushT]
  obtain ⟨v, bs, hv, hb, hrep⟩ := hm.slot hL
  -- the place in the larger list
  let f : Nat → Nat := fun q => if q = r then T.slots.length else q
  have gv : ∀ q, ((vals.take T.slots.length).set r v)[q]? = if q < T.slots.length then vals[f q]? else none := fun q => by
    by_cases hq : q < T.slots.length
    · rw [if_pos hq, getElem?_set_ _ _ _ _ (by rw [List.length_take]; omega)]
      by_cases he : q = r
      · subst he; rw [if_pos rfl]; show _ = vals[f q]?; rw [show f q = T.slots.length from if_pos rfl, hv]
      rw [if_neg (fun e => he e.symm), List.getElem?_take_of_lt hq, show f q = q from if_neg he]
    rw [if_neg hq, List.getElem?_eq_none]; rw [List.length_set, List.length_take]; omega
  have gb : ∀ q, ((bss.take T.slots.length).set r bs)[q]? = if q < T.slots.length then bss[f q]? else none := fun q => by
    by_cases hq : q < T.slots.length
    · rw [if_pos hq, getElem?_set_ _ _ _ _ (by rw [List.length_take]; omega)]
      by_cases he : q = r
      · subst he; rw [if_pos rfl]; show _ = bss[f q]?; rw [show f q = T.slots.length from if_pos rfl, hb]
      rw [if_neg (fun e => he e.symm), List.getElem?_take_of_lt hq, show f q = q from if_neg he]
    rw [if_neg hq, List.getElem?_eq_none]; rw [List.length_set, List.length_take]; omega
  have gs : ∀ q, (T.slots.set r (T.ep, y))[q]? = if q < T.slots.length then (pushT T y).slots[f q]? else none := fun q => by
    by_cases hq : q < T.slots.length
    · rw [if_pos hq, getElem?_set_ _ _ _ _ hrl]
      by_cases he : q = r
      · subst he; rw [if_pos rfl]; rw [show f q = T.slots.length from if_pos rfl, hL]
      rw [if_neg (fun e => he e.symm), show f q = q from if_neg he, hup q hq]
    rw [if_neg hq, List.getElem?_eq_none]; rw [List.length_set]; omega
  have fi : ∀ q q', q < T.slots.length → q' < T.slots.length → q ≠ q' → f q ≠ f q' := fun q q' h1 h2 hne => by
    show (if q = r then _ else _) ≠ (if q' = r then _ else _)
    split <;> split <;> omega
  have un : ∀ {β : Type} {l : Option β} {q : Nat} {x : β}, (if q < T.slots.length then l else none) = some x → q < T.slots.length ∧ l = some x := fun h => by
    split at h
    · exact ⟨by assumption, h⟩
    cases h
  refine ⟨(vals.take T.slots.length).set r v, (bss.take T.slots.length).set r bs, ⟨hm.kept, hm.s0, hm.sub, hm.lt, by rw [List.length_set, List.length_set, List.length_take]; omega, by rw [List.length_set, List.length_set, List.length_take]; omega, ?_, ?_, ?_, ?_, ?_, ?_, ?_, by show 0 < T.ep + 1; omega⟩, ?_, ?_⟩
  · intro q k x u b h1 h2 h3
    rw [gs] at h1; rw [gv] at h2; rw [gb] at h3
    exact hm.rep (f q) k x u b (un h1).2 (un h2).2 (un h3).2
  · intro q b h
    rw [gb] at h
    exact hm.nodup _ b (un h).2
  · intro q q' b b' hne h1 h2
    rw [gb] at h1 h2
    exact hm.disj _ _ b b' (fi q q' (un h1).1 (un h2).1 hne) (un h1).2 (un h2).2
  · intro q b h
    rw [gb] at h
    exact hm.apart _ b (un h).2
  · intro q b h
    rw [gb] at h
    exact hm.mine _ b (un h).2
  · intro q x hq h
    rw [gs] at h
    obtain ⟨hql, h⟩ := un h
    rw [gv, if_pos hql]
    by_cases he : q = r
    · subst he
      rw [show f q = T.slots.length from if_pos rfl, hL] at h
      injection h with h
      injection h with h
      omega
    rw [show f q = q from if_neg he] at h ⊢
    exact hm.root q x hq h
  · intro q k x h
    rw [gs] at h
    exact hm.ver (f q) k x (un h).2
  · rw [gv, if_pos hrl]; show vals[f r]? = _; rw [show f r = T.slots.length from if_pos rfl]
  intro q hq hne
  rw [gv, if_pos hq, show f q = q from if_neg hne]
theorem follows_at {S S' : Nat → Prop} {vals vals1 vals' : List Value} {w w' : World} {r k0 : Nat} {y : AV} (hT : T.slots[r]? = some (k0, .any)) (hf : Follows C.P S w T vals S' w' (pushT T y) vals1) (hl : vals.length = T.slots.length)
    (hq : ∀ q, q < T.slots.length → q ≠ r → vals'[q]? = vals1[q]?) : Follows C.P S w T vals S' w' ⟨T.slots.set r (T.ep, y), T.ep + 1⟩ vals' := by
  have hrl : r < T.slots.length := (List.getElem?_eq_some_iff.1 hT).1
  have key : ∀ {q k : Nat} {x : AV}, k < T.ep → (T.slots.set r (T.ep, y))[q]? = some (k, x) → q < T.slots.length ∧ q ≠ r ∧ (pushT T y).slots[q]? = some (k, x) := fun {q k x} hk h => by
    have hql : q < T.slots.length := by have := (List.getElem?_eq_some_iff.1 h).1; rwa [List.length_set] at this
    rw [getElem?_set_ _ _ _ _ hrl] at h
    by_cases he : r = q
    · rw [if_pos he] at h
      injection h with h
      injection h with h
      omega
    rw [if_neg he] at h
    refine ⟨hql, fun e => he e.symm, ?_⟩
    show (T.slots ++ [_])[q]? = _
    rw [List.getElem?_append_left hql]
    exact h
  intro u x hx
  have hx' := hf u x hx
  cases x with
  | sl q k off len => exact ⟨Nat.lt_succ_of_lt hx.1, hx.2.1, fun e es v sz q1 q2 q3 => by
      obtain ⟨a1, a2, a3⟩ := key hx.1 q1
      rw [hq q a1 a2] at q2
      exact hx'.2.2 e es v sz a3 q2 q3⟩
  | ptr q k i j => exact ⟨Nat.lt_succ_of_lt hx.1, hx.2.1, fun e es v sz q1 q2 q3 => by
      obtain ⟨a1, a2, a3⟩ := key hx.1 q1
      rw [hq q a1 a2] at q2
      exact hx'.2.2 e es v sz a3 q2 q3⟩
  | mp q k => exact ⟨Nat.lt_succ_of_lt hx.1, hx.2.1, fun b ks v q1 q2 => by
      obtain ⟨a1, a2, a3⟩ := key hx.1 q1
      rw [hq q a1 a2] at q2
      exact hx'.2.2 b ks v a3 q2⟩
  | _ => exact hx'
theorem OpJ.at {e : TypeId} {es : List (List AV)} {len k0 : Nat} (r : Nat) (hT : T.slots[r]? = some (k0, .any)) (h : OpJ C o ev T (.sl T.slots.length T.ep 0 len) (pushT T (.own e es))) {T' : Sl} (hT' : (⟨T.slots.set r (T.ep, .own e es), T.ep + 1⟩ : Sl) = T') : OpJ C o ev T (.sl r T.ep 0 len) T' := by
  subst hT'
  intro a w S vals bss hm0 ho K hK Q
  have hrl : r < T.slots.length := (List.getElem?_eq_some_iff.1 hT).1
  refine h a w S vals bss hm0 ho K (fun v w' S' vals' bss' hm hf hv => ?_) Q
  obtain ⟨vals2, bss2, hm2, hv1, hv2⟩ := mem_at hm0.pos hT hm
  refine hK v w' S' vals2 bss2 hm2 (follows_at hT hf hm0.nv hv2) ⟨Nat.lt_succ_self _, hv.2.1, fun e2 es2 v2 sz2 q1 q2 q3 => ?_⟩
  rw [getElem?_set_ _ _ _ _ hrl, if_pos rfl] at q1
  injection q1 with q1
  injection q1 with _ q1
  rw [hv1] at q2
  exact hv.2.2 e2 es2 v2 sz2 (by rw [← q1]; simp [pushT]) q2 q3
end
section
variable {C : Cx} {Q : Exit → Sta → Prop} {ops : Array Oper} {Ok : Sl → Prop} {fuel : Nat} {listed : Array Bool} {env : Nat → AV} {T : Sl} {n : Nat}
end
end Go.Proofs.YtfmnaigedgmhoaaGreatDoor
namespace Go.Proofs.YtfmnaigedgmhoaaGreatDoor
open Go.RowKit
set_option linter.unusedSimpArgs false
set_option linter.unusedVariables false
set_option linter.unusedSectionVars false
abbrev slv (g n c : Nat) : Value := .slice (some ⟨g, 0, none⟩) n c
abbrev ptv (g j : Nat) : Value := .pointer (some ⟨g, j, none⟩)
section
variable {C : Cx} {T : Sl} {S : Nat → Prop} {vals : List Value} {bss : List (List Nat)} {w : World}
theorem Rep.nm_inv {P : Program} {bs : List Nat} {v u : Value} {e : TypeId} {es : List (List AV)} (h : Rep P S w bs v (.nm u e es)) : v = u ∧ Rep P S w bs u (.own e es) := by
  cases h with
  | nm h => exact ⟨rfl, h⟩
theorem set_same {α : Type} {l : List α} {r : Nat} {x : α} (h : l[r]? = some x) : l.set r x = l := by
  apply List.ext_getElem?
  intro j
  rw [List.getElem?_set]
  split
  · rename_i e; subst e; rw [if_pos (List.getElem?_eq_some_iff.1 h).1, h]
  rfl
/-- A slot gets its name. -/
theorem Mem.name {r k : Nat} {u : Value} {e : TypeId} {es : List (List AV)} (hm : Mem C T S vals bss w) (hT : T.slots[r]? = some (k, .own e es)) (hv : vals[r]? = some u) :
    Mem C ⟨T.slots.set r (k, .nm u e es), T.ep⟩ S vals bss w ∧ Follows C.P S w T vals S w ⟨T.slots.set r (k, .nm u e es), T.ep⟩ vals := by
  obtain ⟨v, bs, hv', hb, hrep⟩ := hm.slot hT
  obtain rfl : u = v := Option.some.inj (hv.symm.trans hv')
  have := hm.set (k' := k) (ep' := T.ep) hT hv hb (Kept.refl _ w) (.nm hrep) (hm.nodup r bs hb) (fun b h => .inl h) (.inl ⟨rfl, rfl, rfl, (fun e es h => by cases h), (fun b ks h => by cases h)⟩)
  rwa [set_same hv, set_same hb] at this
theorem own_shape {P : Program} {bs : List Nat} {u : Value} {e : TypeId} {es : List (List AV)} (h : Rep P S w bs u (.own e es)) (h0 : 0 < es.length) : ∃ g c, u = slv g es.length c ∧ es.length ≤ c ∧ c ≤ maxLen := by
  obtain ⟨us, sz, bss, -, -, -, hown, -⟩ := h.own_inv
  rcases hown.2 with ⟨-, h0'⟩ | ⟨g, cap, cur, rfl, -, -, h1, h2, -⟩
  · omega
  exact ⟨g, cap, rfl, h1, h2⟩
/-- The whole slice's value is the slot's. -/
theorem sl_whole {r k len : Nat} {u v : Value} {e : TypeId} {es : List (List AV)} {bs : List Nat} (hT : T.slots[r]? = some (k, .own e es)) (hv : vals[r]? = some v) (hrep : Rep C.P S w bs v (.own e es)) (hl : len = es.length) (hu : TmpOK C.P S w T vals u (.sl r k 0 len)) : u = v := by
  subst hl
  obtain ⟨us, sz, bss1, -, hi, hsz, hown, -⟩ := hrep.own_inv
  obtain ⟨-, hsub⟩ := hu.2.2 e es v sz hT hv hi
  obtain ⟨A, n, cap, hve, h1, h2, h3, h4⟩ := hsub
  rcases h4 with ⟨-, h4⟩ | ⟨A', h4, -⟩
  · rcases hown.2 with ⟨hnil, h0'⟩ | ⟨g, cap', cur, hcap, -⟩
    · rw [hnil] at hve
      injection hve with e1 e2 e3
      rw [h4, hnil, ← e1, ← e3, h0']
    rw [hcap] at hve
    injection hve with e1 e2 e3
    rw [h4, hcap, ← e1, ← e3]
  omega
end
section
variable {C : Cx} {o : Oper} {ev : Operand → AV} {T : Sl}
def OpX (C : Cx) (o : Oper) (ev : Operand → AV) (T : Sl) (p : AV → Sl → Prop) : Prop :=
  ∀ (a : Act) (w : World) (S : Nat → Prop) (vals : List Value) (bss : List (List Nat)), Mem C T S vals bss w → (∀ y ∈ o.op.operands, TmpOK C.P S w T vals (a.eval y) (ev y)) →
    ∀ (K : Act → World → Prop), (∀ x T', p x T' → ∀ v w' S' vals' bss', Mem C T' S' vals' bss' w' → Follows C.P S w T vals S' w' T' vals' → TmpOK C.P S' w' T' vals' v x → K (a.put o.dst v) w') → ∀ Q, o.wp C.P a w K Q
theorem OpJ.x {x : AV} {T' : Sl} (h : OpJ C o ev T x T') : OpX C o ev T fun y T'' => y = x ∧ T'' = T' := fun a w S vals bss hm ho K hK Q =>
  h a w S vals bss hm ho K (fun v w' S' vals' bss' h1 h2 h3 => hK _ _ ⟨rfl, rfl⟩ v w' S' vals' bss' h1 h2 h3) Q
theorem OpX.congr {ev' : Operand → AV} {p : AV → Sl → Prop} (h : OpX C o ev T p) (he : ∀ y ∈ o.op.operands, ev' y = ev y) : OpX C o ev' T p :=
  fun a w S vals bss hm ho => h a w S vals bss hm fun y hy => by rw [← he y hy]; exact ho y hy
/-- A new slice gets its name. -/
theorem OpJ.nmS {r k n : Nat} {e : TypeId} {es : List (List AV)} {T1 : Sl} (h : OpJ C o ev T (.sl r k 0 n) T1) (hT : T1.slots[r]? = some (k, .own e es)) (hn : n = es.length) :
    OpX C o ev T fun x T' => ∃ u, (0 < n → ∃ g c, u = slv g n c) ∧ x = .v u ∧ T' = ⟨T1.slots.set r (k, .nm u e es), T1.ep⟩ := fun a w S vals bss hm ho K hK Q => by
  refine h a w S vals bss hm ho K (fun v w' S' vals' bss' h1 h2 h3 => ?_) Q
  obtain ⟨u, bs, hv, hb, hrep⟩ := h1.slot hT
  obtain rfl := sl_whole hT hv hrep hn h3
  obtain ⟨hm2, hf2⟩ := h1.name hT hv
  exact hK _ _ ⟨v, fun h0 => by subst hn; obtain ⟨g, c, h, -, -⟩ := own_shape hrep h0; exact ⟨g, c, h⟩, rfl, rfl⟩ _ _ _ _ _ hm2 (fun u x h => hf2 u x (h2 u x h)) (TmpOK.v_ hrep.one)
/-- All slots are lent to a closure over plain values. -/
def nmB : AV → AV → Prop
  | .nm u e _, x => ∃ es, x = .nm u e es
  | _, _ => False
end
section
variable {C : Cx} {Q : Exit → Sta → Prop} {σ : Sta}
theorem awX {ops : Array Oper} {l : List Oper} {o : Oper} {env : Nat → AV} {T : Sl} {n : Nat} {p : AV → Sl → Prop} (hj : OpX C o (evA env) T p) (h : ∀ x T', p x T' → AWL C ops Q l ⟨putE env o.dst x, T', n⟩) (hg : o.guard = none := by rfl) (ho : opsOk o n = true := by rfl) : AWL C ops Q (o :: l) ⟨env, T, n⟩ := by
  intro a w ⟨hd, hn, S, vals, bss, hm, he⟩
  refine wpList_plain hg fun K hK => ?_
  exact hj a w S vals bss hm (St.ops (σ := ⟨env, T, n⟩) hn he ho) K (fun x T' hp v w' S' vals' bss' hm' hf hx => hK _ _ (h x T' hp _ _ (St.put (σ := ⟨env, T, n⟩) hd hn he hm' hf hx))) _
/-- What every state says. -/
theorem AW.pure {c : Code} {p : Prop} (hp : ∀ a w, St C σ a w → p) (h : p → AW C c Q σ) : AW C c Q σ := fun a w hs => h (hp a w hs) a w hs
theorem AWL.pure {ops : Array Oper} {l : List Oper} {p : Prop} (hp : ∀ a w, St C σ a w → p) (h : p → AWL C ops Q l σ) : AWL C ops Q l σ := fun a w hs => h (hp a w hs) a w hs
end
section
variable {C : Cx} {ops : Array Oper} {Q : Exit → Sta → Prop} {Ok : Sl → Prop}
/-- What is known of an operation's guard: t: it is carried out. -/
def Want (ops : Array Oper) (env : Nat → AV) (n : Nat) (o : Oper) (t : Bool) : Prop :=
  (o.guard = none ∧ t = true) ∨ ∃ g p o' d b, o.guard = some (g, p) ∧ ops[g]? = some o' ∧ o'.dst = some d ∧ d < n ∧ env d = .v (.bool b) ∧ t = (b == p)
theorem Want.put {env : Nat → AV} {n : Nat} {oi o : Oper} {t : Bool} {x : AV} (h : Want ops (putE env oi.dst x) n o t) (ha : ∀ d, oi.dst = some d → d ∉ o.looksAt ops) : Want ops env n o t := by
  rcases h with h | ⟨g, p, o', d, b, h1, h2, h3, h4, h5, h6⟩
  · exact .inl h
  refine .inr ⟨g, p, o', d, b, h1, h2, h3, h4, ?_, h6⟩
  have hne : oi.dst ≠ some d := fun he => ha d he (by simp [Oper.looksAt, h1, h2, h3])
  cases hd : oi.dst with
  | none => rw [hd] at h5; exact h5
  | some q =>
    rw [hd] at h5
    have hqd : ¬ d = q := fun e => hne (by rw [hd, e])
    have h5' : upd env q x d = .v (.bool b) := h5
    unfold upd at h5'
    rwa [if_neg hqd] at h5'
def AX (C : Cx) (ops : Array Oper) (Q : Exit → Sta → Prop) (Ok : Sl → Prop) : Nat → Array Bool → Sta → Prop
  | 0, listed, σ => Region.ready .any ops listed = [] ∧ Q .normal σ
  | f + 1, listed, σ => (Region.ready .any ops listed = [] → Q .normal σ) ∧ ∀ i ∈ Region.ready .any ops listed, ∃ o t, ops[i]? = some o ∧ Want ops σ.env σ.n o t ∧ opsOk o σ.n = true ∧
      (t = true → ∃ p, OpX C o (evA σ.env) σ.T p ∧ ∀ x T', p x T' → Ok T' ∧ AX C ops Q Ok f (listed.setIfInBounds i true) ⟨putE σ.env o.dst x, T', σ.n⟩) ∧
      (t = false → AX C ops Q Ok f (listed.setIfInBounds i true) ⟨putE σ.env o.dst .any, σ.T, σ.n⟩)
theorem AWOp.want {i : Nat} {o : Oper} {K : Sta → Prop} {σ : Sta} {t : Bool} (hi : ops[i]? = some o) (hw : Want ops σ.env σ.n o t) (ho : opsOk o σ.n = true)
    (h1 : t = true → ∃ p, OpX C o (evA σ.env) σ.T p ∧ ∀ x T', p x T' → K ⟨putE σ.env o.dst x, T', σ.n⟩) (h2 : t = false → K ⟨putE σ.env o.dst .any, σ.T, σ.n⟩) : AWOp C ops Q i K σ := by
  intro a w hs K' hK
  have hwt : Region.wanted o (yielded ops a.tmps) = t := by
    rcases hw with ⟨hg, rfl⟩ | ⟨g, p, o', d, b, hg, ho', hd, hdn, hv, rfl⟩
    · simp [Region.wanted, hg]
    have hb := hs.bool (c := .tmp d) (t := b) (by simpa [noneBig] using hdn) rfl hv
    have hlt : d < a.tmps.size := by obtain ⟨-, hn, -⟩ := hs; rw [hn]; exact hdn
    simp [Act.eval, hlt] at hb
    cases b <;> cases p <;> simp [Region.wanted, hg, yielded, ho', hd, hlt, hb]
  obtain ⟨hd, hn, S, vals, bss, hm, he⟩ := hs
  unfold wpOp
  simp only [hi, hwt]
  cases t with
  | true =>
    obtain ⟨p, hj, h⟩ := h1 rfl
    rw [if_pos rfl]
    exact .inl (hj a w S vals bss hm (St.ops hn he ho) K' (fun x T' hp v w' S' vals' bss' hm' hf hx => hK _ _ _ (h x T' hp) (St.put hd hn he hm' hf hx)) _)
  | false =>
    rw [if_neg (by simp)]
    exact hK _ _ _ (h2 rfl) (St.put hd hn he hm Follows.refl TmpOK.any_)
theorem AX.any : ∀ (f : Nat) (listed : Array Bool) (σ : Sta), AX C ops Q Ok f listed σ → AWAny C ops Q f listed σ
  | 0, _, _, h => AWAny.done h.1 h.2
  | f + 1, listed, σ, h => by
    by_cases hr : Region.ready .any ops listed = []
    · exact AWAny.done hr (h.1 hr)
    refine AWAny.all rfl hr fun i hi => ?_
    obtain ⟨o, t, h1, h2, h3, h4, h5⟩ := h.2 i hi
    exact AWOp.want h1 h2 h3 (fun ht => by obtain ⟨p, hp, hk⟩ := h4 ht; exact ⟨p, hp, fun x T' hx => AX.any f _ _ (hk x T' hx).2⟩) fun ht => AX.any f _ _ (h5 ht)
theorem AX.first {i : Nat} {oi : Oper} {x : AV} {n : Nat} {ev0 : Operand → AV} (hi : ops[i]? = some oi) (hg : oi.guard = none) (hok : opsOk oi n = true) (hj : ∀ T', Ok T' → OpJ C oi ev0 T' x T') :
    ∀ (f : Nat) (listed : Array Bool) (env : Nat → AV) (T : Sl),
      (∀ j oj, ops[j]? = some oj → j ≠ i → listed.getD j true = false → (∀ e ∈ oj.after, Region.binds .any e = true → e.on ≠ i) → oi.apart ops oj = true) →
      i ∈ Region.ready .any ops listed → (∀ y ∈ oi.op.operands, evA env y = ev0 y) → Ok T →
      AX C ops Q Ok f (listed.setIfInBounds i true) ⟨putE env oi.dst x, T, n⟩ → AX C ops Q Ok (f + 1) listed ⟨env, T, n⟩ := by
  intro f
  have self : ∀ (f : Nat) (listed : Array Bool) (env : Nat → AV) (T : Sl), (∀ y ∈ oi.op.operands, evA env y = ev0 y) → Ok T → AX C ops Q Ok f (listed.setIfInBounds i true) ⟨putE env oi.dst x, T, n⟩ →
      ∃ o t, ops[i]? = some o ∧ Want ops env n o t ∧ opsOk o n = true ∧ (t = true → ∃ p, OpX C o (evA env) T p ∧ ∀ x T', p x T' → Ok T' ∧ AX C ops Q Ok f (listed.setIfInBounds i true) ⟨putE env o.dst x, T', n⟩) ∧ (t = false → AX C ops Q Ok f (listed.setIfInBounds i true) ⟨putE env o.dst .any, T, n⟩) :=
    fun f listed env T hev hT H => ⟨oi, true, hi, .inl ⟨hg, rfl⟩, hok, fun _ => ⟨_, ((hj T hT).congr hev).x, by rintro y T' ⟨rfl, rfl⟩; exact ⟨hT, H⟩⟩, fun h => by cases h⟩
  induction f with
  | zero =>
    intro listed env T _ hr hev hT H
    refine ⟨fun h => (by rw [h] at hr; cases hr), fun j hjr => ?_⟩
    by_cases hji : j = i
    · subst hji; exact self 0 listed env T hev hT H
    have := ready_mono hjr hji
    rw [H.1] at this
    cases this
  | succ f ih =>
    intro listed env T hfree hr hev hT H
    have hun := (mem_ready.1 hr).1
    refine ⟨fun h => (by rw [h] at hr; cases hr), fun j hjr => ?_⟩
    by_cases hji : j = i
    · subst hji; exact self (f + 1) listed env T hev hT H
    obtain ⟨oj, t, h1, h2, h3, h4, h5⟩ := H.2 j (ready_mono hjr hji)
    obtain ⟨hjun, oj', hoj, hall⟩ := mem_ready.1 hjr
    have : oj' = oj := Option.some.inj (hoj.symm.trans h1)
    subst this
    have hnot : ∀ e ∈ oj'.after, Region.binds .any e = true → e.on ≠ i := fun e he hb heq => by
      have h1 := hall e he hb
      rw [heq, getD_both hun] at h1
      cases h1
    obtain ⟨a1, a2, a3⟩ := Oper.apart_spec (hfree j oj' hoj hji hjun hnot)
    have hfree' : ∀ k ok, ops[k]? = some ok → k ≠ i → (listed.setIfInBounds j true).getD k true = false → (∀ e ∈ ok.after, Region.binds .any e = true → e.on ≠ i) → oi.apart ops ok = true := fun k ok hk hki hun hno => by
      refine hfree k ok hk hki ?_ hno
      by_cases hjk : j = k
      · subst hjk; exact hjun
      rw [getD_set_ne true hjk] at hun; exact hun
    have step : ∀ (y : AV) (T' : Sl), Ok T' → AX C ops Q Ok f ((listed.setIfInBounds i true).setIfInBounds j true) ⟨putE (putE env oi.dst x) oj'.dst y, T', n⟩ → AX C ops Q Ok (f + 1) (listed.setIfInBounds j true) ⟨putE env oj'.dst y, T', n⟩ := fun y T' h6 h7 => by
      refine ih _ _ _ hfree' (ready_mono hr (Ne.symm hji)) (fun q hq => (evA_put a3 q hq).trans (hev q hq)) h6 ?_
      rw [Array.setIfInBounds_comm _ _ hji]
      rw [putE_comm (fun t ht ht' => a2 t ht ht')] at h7
      exact h7
    refine ⟨oj', t, h1, h2.put a1, h3, fun ht => ?_, fun ht => step _ _ hT (h5 ht)⟩
    obtain ⟨p, hp, hk⟩ := h4 ht
    exact ⟨p, hp.congr fun q hq => (evA_put a1 q hq).symm, fun y T' hy => ⟨(hk y T' hy).1, step _ _ (hk y T' hy).1 (hk y T' hy).2⟩⟩
end
section
variable {C : Cx} {Q : Exit → Sta → Prop} {ops : Array Oper} {Ok : Sl → Prop} {fuel : Nat} {listed : Array Bool} {o : Oper} {env : Nat → AV} {T T' : Sl} {n : Nat} {x : AV} {p : AV → Sl → Prop}
/-- What is to be shown of an operation that may come next. -/
def AXi (C : Cx) (ops : Array Oper) (Q : Exit → Sta → Prop) (Ok : Sl → Prop) (fuel : Nat) (listed : Array Bool) (env : Nat → AV) (T : Sl) (n i : Nat) : Prop :=
  ∃ o t, ops.toList[i]? = some o ∧ Want ops env n o t ∧ opsOk o n = true ∧ (t = true → ∃ p, OpX C o (evA env) T p ∧ ∀ x T', p x T' → Ok T' ∧ AX C ops Q Ok fuel (listed.setIfInBounds i true) ⟨putE env o.dst x, T', n⟩) ∧
    (t = false → AX C ops Q Ok fuel (listed.setIfInBounds i true) ⟨putE env o.dst .any, T, n⟩)
theorem AXi.mk {i : Nat} (hi : ops.toList[i]? = some o) (hj : OpX C o (evA env) T p) (h : ∀ x T', p x T' → Ok T' ∧ AX C ops Q Ok fuel (listed.setIfInBounds i true) ⟨putE env o.dst x, T', n⟩) (hg : o.guard = none := by rfl) (ho : opsOk o n = true := by rfl) : AXi C ops Q Ok fuel listed env T n i := ⟨o, true, hi, .inl ⟨hg, rfl⟩, ho, fun _ => ⟨p, hj, h⟩, fun h => by cases h⟩
/-- A guarded operation that is carried out, and one that is not. -/
theorem AXi.yes {i : Nat} {o' : Oper} (g d : Nat) {b : Bool} (hi : ops.toList[i]? = some o) (hj : OpJ C o (evA env) T x T') (hT : Ok T') (h : AX C ops Q Ok fuel (listed.setIfInBounds i true) ⟨putE env o.dst x, T', n⟩) (hv : env d = .v (.bool b)) (hg : o.guard = some (g, b)) (ho' : ops.toList[g]? = some o') (hd : o'.dst = some d) (hdn : Nat.ble (d + 1) n = true) (ho : opsOk o n = true := by rfl) : AXi C ops Q Ok fuel listed env T n i :=
  ⟨o, true, hi, .inr ⟨g, b, o', d, b, hg, atL ho', hd, Nat.le_of_ble_eq_true hdn, hv, by simp⟩, ho, fun _ => ⟨_, hj.x, by rintro y T'' ⟨rfl, rfl⟩; exact ⟨hT, h⟩⟩, fun h => by cases h⟩
theorem AXi.no {i : Nat} {o' : Oper} (g d : Nat) {b : Bool} (hi : ops.toList[i]? = some o) (h : AX C ops Q Ok fuel (listed.setIfInBounds i true) ⟨putE env o.dst .any, T, n⟩) (hv : env d = .v (.bool b)) (hg : o.guard = some (g, !b)) (ho' : ops.toList[g]? = some o') (hd : o'.dst = some d) (hdn : Nat.ble (d + 1) n = true) (ho : opsOk o n = true := by rfl) : AXi C ops Q Ok fuel listed env T n i :=
  ⟨o, false, hi, .inr ⟨g, !b, o', d, b, hg, atL ho', hd, Nat.le_of_ble_eq_true hdn, hv, by cases b <;> rfl⟩, ho, fun h => (by cases h), fun _ => h⟩
theorem AXi.ready {i : Nat} (hne : Region.ready .any ops listed ≠ []) (h : AXi C ops Q Ok fuel listed env T n i) : ∃ o t, ops[i]? = some o ∧ Want ops env n o t ∧ opsOk o n = true ∧ (t = true → ∃ p, OpX C o (evA env) T p ∧ ∀ x T', p x T' → Ok T' ∧ AX C ops Q Ok fuel (listed.setIfInBounds i true) ⟨putE env o.dst x, T', n⟩) ∧
    (t = false → AX C ops Q Ok fuel (listed.setIfInBounds i true) ⟨putE env o.dst .any, T, n⟩) := by
  obtain ⟨o, t, h1, h2⟩ := h
  exact ⟨o, t, atL h1, h2⟩
end
end Go.Proofs.YtfmnaigedgmhoaaGreatDoor
namespace Go.Proofs.YtfmnaigedgmhoaaGreatDoor
open Go.RowKit
set_option linter.unusedSimpArgs false
set_option linter.unusedVariables false
set_option linter.unusedSectionVars false
def nmE (u : Value) (e : TypeId) (es : List (List AV)) : AV := if es = [] then .any else .nm u e es
section
variable {C : Cx} {o : Oper} {ev : Operand → AV} {T : Sl}
end
section
variable {C : Cx} {σ : Sta}
end
end Go.Proofs.YtfmnaigedgmhoaaGreatDoor
namespace Go.Proofs.YtfmnaigedgmhoaaGreatDoor
open Go.RowKit
set_option linter.unusedSimpArgs false
set_option linter.unusedVariables false
set_option linter.unusedSectionVars false
section
variable {C : Cx} {o : Oper} {ev : Operand → AV} {T : Sl}
theorem RefOK.repA {P : Program} {S : Nat → Prop} {w : World} {T : Sl} {vals : List Value} {u : Value} {x : AV} (h : RefOK P S w T vals u x) (hx : repA x = true) : Rep P S w [] u x := by
  cases x <;> first | exact h | cases hx
end
end Go.Proofs.YtfmnaigedgmhoaaGreatDoor
namespace Go.Proofs.YtfmnaigedgmhoaaGreatDoor
open Go.RowKit
set_option linter.unusedSimpArgs false
set_option linter.unusedVariables false
section
variable {C : Cx} {ops : Array Oper} {Q : Exit → Sta → Prop} {Ok : Sl → Prop} {k : Nat}
variable {fuel : Nat} {listed : Array Bool} {env : Nat → AV} {T : Sl} {n : Nat}
end
section
variable {C : Cx} {o : Oper} {ev : Operand → AV} {T : Sl} {σ : Sta}
/-- A named slice's length. -/
theorem St.len {a : Act} {w : World} (hs : St C σ a w) {r k n : Nat} {u : Value} {e : TypeId} {es : List (List AV)} (hT : σ.T.slots[r]? = some (k, .nm u e es)) (hn : es.length = n) : ∃ A c, u = .slice A n c := by
  subst hn
  obtain ⟨hd, hn, S, vals, bss, hm, he⟩ := hs
  obtain ⟨v, bs, hv, hb, hrep⟩ := hm.slot hT
  obtain ⟨rfl, hr⟩ := hrep.nm_inv
  obtain ⟨us, sz, bss, -, -, -, hown, -⟩ := hr.own_inv
  rcases hown.2 with ⟨h1, h0'⟩ | ⟨g, cap, cur, rfl, -⟩
  · exact ⟨none, 0, by rw [h1, h0']⟩
  exact ⟨_, _, rfl⟩
end
section
variable {C : Cx} {σ : Sta}
end
end Go.Proofs.YtfmnaigedgmhoaaGreatDoor
namespace Go.Proofs.YtfmnaigedgmhoaaGreatDoor
open Go.RowKit
set_option linter.unusedSimpArgs false
set_option linter.unusedVariables false
section
variable {C : Cx} {o : Oper} {ev : Operand → AV} {T : Sl}
theorem RL.take {α β : Type} {R : α → β → Prop} {us : List α} {xs : List β} (h : RL R us xs) (n : Nat) : RL R (us.take n) (xs.take n) := by
  refine ⟨by rw [List.length_take, List.length_take, h.1], fun i u x hu hx => ?_⟩
  rw [List.getElem?_take] at hu hx
  split at hu
  · rename_i hi
    rw [if_pos hi] at hx
    exact h.2 i u x hu hx
  cases hu
end
end Go.Proofs.YtfmnaigedgmhoaaGreatDoor
