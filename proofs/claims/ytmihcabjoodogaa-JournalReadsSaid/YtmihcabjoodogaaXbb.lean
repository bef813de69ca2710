import Derived.Test.YtmihcabjoodogaaXba
import Derived.IntWalk
import Derived.StillTail
import Derived.Shelf.GgSortMore.Stable
import Derived.Shelf.SlSortFuncK.SWK
import Derived.Laws.IdiomStrings
import Derived.Laws.BytesArg
import Derived.Lib.AppendStr
import Derived.Laws.Concat
import Derived.Laws.BitsAllLaws
import Derived.Test.YtmihcabjoodogaaProg
import Derived.KernelRfl
namespace Go.Proofs.Ytmihcabjoodogaa
open Go.RowKit
set_option linter.unusedSimpArgs false
set_option linter.unusedVariables false
section
variable {C : Cx} {Q : Exit → Sta → Prop} {K : Sta → Prop} {ops : Array Oper} {o : Oper} {l : List Oper} {env : Nat → AV} {T T' : Sl} {n : Nat} {x : AV}
theorem awP (hj : OpP C o (evA env) T x) (h : AWL C ops Q l ⟨putE env o.dst x, T, n⟩) (hg : o.guard = none := by rfl) (ho : opsOk o n = true := by rfl) : AWL C ops Q (o :: l) ⟨env, T, n⟩ := AWL.op hg ho (OpP.j hj) h
theorem awR (hj : OpR C o (evA env) T x) (h : AWL C ops Q l ⟨putE env o.dst x, T, n⟩) (hg : o.guard = none := by rfl) (ho : opsOk o n = true := by rfl) : AWL C ops Q (o :: l) ⟨env, T, n⟩ := AWL.op hg ho (OpR.j hj) h
theorem awJ (hj : OpJ C o (evA env) T x T') (h : AWL C ops Q l ⟨putE env o.dst x, T', n⟩) (hg : o.guard = none := by rfl) (ho : opsOk o n = true := by rfl) : AWL C ops Q (o :: l) ⟨env, T, n⟩ := AWL.op hg ho hj h
theorem aqP (hj : OpP C o (evA env) T x) (h : AQ C ops K l ⟨putE env o.dst x, T, n⟩) (hg : o.guard = none := by rfl) (ho : opsOk o n = true := by rfl) : AQ C ops K (o :: l) ⟨env, T, n⟩ := AQ.op hg ho (OpP.q hj) h
theorem aqR (hj : OpR C o (evA env) T x) (h : AQ C ops K l ⟨putE env o.dst x, T, n⟩) (hg : o.guard = none := by rfl) (ho : opsOk o n = true := by rfl) : AQ C ops K (o :: l) ⟨env, T, n⟩ := AQ.op hg ho (OpR.q hj) h
theorem aqQ (hj : OpQ C o (evA env) T x) (h : AQ C ops K l ⟨putE env o.dst x, T, n⟩) (hg : o.guard = none := by rfl) (ho : opsOk o n = true := by rfl) : AQ C ops K (o :: l) ⟨env, T, n⟩ := AQ.op hg ho hj h
def era (W : List Nat) (env : Nat → AV) : Nat → AV := fun t => if W.contains t then .any else env t
theorem wpQuiet_append {P : Program} {ops : Array Oper} {D : World → Prop} {Q : Act → Prop} : ∀ (l1 l2 : List Oper) (a : Act), wpQuiet P ops D (fun a' => wpQuiet P ops D Q l2 a') l1 a → wpQuiet P ops D Q (l1 ++ l2) a
  | [], l2, a, h => h
  | o :: l1, l2, a, h => by
    rw [List.cons_append]
    unfold wpQuiet at h ⊢
    split
    · rename_i hw
      rw [if_pos hw] at h
      exact Oper.quiet_mono (fun a => wpQuiet_append l1 l2 a) h
    · rename_i hw
      rw [if_neg hw] at h
      exact wpQuiet_append l1 l2 _ h
theorem wpQuiet_mono {P : Program} {ops : Array Oper} {D : World → Prop} {Q Q' : Act → Prop} (hq : ∀ a, Q a → Q' a) : ∀ (l : List Oper) (a : Act), wpQuiet P ops D Q l a → wpQuiet P ops D Q' l a
  | [], a, h => hq a h
  | o :: l, a, h => by
    unfold wpQuiet at h ⊢
    split
    · rename_i hw; rw [if_pos hw] at h; exact Oper.quiet_mono (fun a => wpQuiet_mono hq l a) h
    · rename_i hw; rw [if_neg hw] at h; exact wpQuiet_mono hq l _ h
theorem wpQuiet_skip {P : Program} {ops : Array Oper} {D : World → Prop} {Q : Act → Prop} {g d : Nat} {o' : Oper} {b : Bool} (ho' : ops[g]? = some o') (hd : o'.dst = some d) : ∀ (seg : List Oper) (a : Act), d < a.tmps.size → a.eval (.tmp d) = .bool b → (∀ o ∈ seg, o.guard = some (g, !b) ∧ o.dst ≠ some d) →
    (∀ a', a'.defers = a.defers → a'.tmps.size = a.tmps.size → (∀ t, (∀ o ∈ seg, o.dst ≠ some t) → a'.tmps.getD t undef = a.tmps.getD t undef) → Q a') → wpQuiet P ops D Q seg a
  | [], a, _, _, _, h => h a rfl rfl fun _ _ => rfl
  | o :: seg, a, hlt, hb, hs, h => by
    obtain ⟨hg, hne⟩ := hs o (by simp)
    have hw : ¬ Region.wanted o (yielded ops a.tmps) = true := by
      simp [Act.eval, hlt] at hb
      simp [Region.wanted, hg, yielded, ho', hd, hlt, hb]
    unfold wpQuiet
    rw [if_neg hw]
    have hsame : (a.put o.dst undef).tmps.getD d undef = a.tmps.getD d undef := by
      rw [Act.getD_put, if_neg]; intro h; exact hne h.1
    refine wpQuiet_skip ho' hd seg _ (by rw [Act.size_put]; exact hlt) (by show (a.put o.dst undef).tmps.getD d undef = _; rw [hsame]; exact hb) (fun o h => hs o (by simp [h])) fun a' h1 h2 h3 => h a' (by rw [h1, Act.defers_put]) (by rw [h2, Act.size_put]) fun t ht => ?_
    rw [h3 t fun o h => ht o (by simp [h]), Act.getD_put, if_neg]
    intro hh; exact ht o (by simp) hh.1
/-- What a guarded segment must come to. -/
def segK (σ : Sta) (W : List Nat) (d : Nat) (b2 : Bool) : Sta → Prop := fun σ' => σ'.T = σ.T ∧ σ'.n = σ.n ∧ σ'.env d = .v (.bool b2) ∧ ∀ t, W.contains t = false → σ'.env t = σ.env t
theorem StI.era {σ : Sta} {a : Act} {w : World} {S : Nat → Prop} {vals : List Value} {bss : List (List Nat)} (h : StI C σ a w S vals bss) {σ' : Sta} (hT : σ.T = σ'.T) (hn : σ.n = σ'.n) (W : List Nat) (hW : ∀ t, W.contains t = false → σ.env t = σ'.env t) : StI C ⟨era W σ'.env, σ'.T, σ'.n⟩ a w S vals bss := by
  obtain ⟨h1, h2, h3, h4⟩ := h
  rw [hn] at h2 h4
  rw [hT] at h3 h4
  refine ⟨h1, h2, h3, fun t ht => ?_⟩
  show TmpOK _ _ _ _ _ _ (Go.Proofs.Ytmihcabjoodogaa.era W σ'.env t)
  unfold Go.Proofs.Ytmihcabjoodogaa.era
  cases hc : W.contains t
  · rw [if_neg (by simp), ← hW t hc]; exact h4 t ht
  · rw [if_pos rfl]; exact TmpOK.any_
/-- a && b: seg reckons b. -/
theorem aqAnd {σ : Sta} (seg rest : List Oper) (p : Oper) (W : List Nat) {g c d pd : Nat} {b : Bool} {b2 : Bool} {o' : Oper} (hl : l = seg ++ p :: rest) (ho' : ops[g]? = some o') (hd : o'.dst = some c) (hc : c < σ.n) (hv : σ.env c = .v (.bool b)) (hs : seg.all (fun o => (o.guard == some (g, true)) && (match o.dst with | some t => W.contains t && t != c | none => true)) = true) (hp : p.op = .pick (.tmp c) (.tmp d) (.const (.bool false))) (hpg : p.guard = none) (hpd : p.dst = some pd) (hdn : d < σ.n) (hcW : W.contains c = false)
    (h1 : b = true → AQ C ops (segK σ W d b2) seg σ) (h2 : AQ C ops K rest ⟨upd (era W σ.env) pd (.v (.bool (b && b2))), σ.T, σ.n⟩) : AQ C ops K l σ := by
  subst hl
  intro a w S vals bss hst
  refine wpQuiet_append _ _ _ ?_
  have hseg : ∀ o ∈ seg, o.guard = some (g, true) ∧ (∀ t, o.dst = some t → W.contains t = true ∧ t ≠ c) := fun o ho => by
    have := List.all_eq_true.1 hs o ho
    simp only [Bool.and_eq_true, beq_iff_eq] at this
    refine ⟨this.1, fun t ht => ?_⟩
    rw [ht] at this
    simpa using this.2
  have hcv := hst.st.bool (c := .tmp c) (t := b) (by simpa [noneBig] using hc) rfl hv
  have fin : ∀ (a' : Act) (σ' : Sta), StI C σ' a' w S vals bss → σ'.T = σ.T → σ'.n = σ.n → (∀ t, W.contains t = false → σ'.env t = σ.env t) → (b = true → a'.eval (.tmp d) = .bool b2) → wpQuiet C.P ops (fun w' => Kept (fun _ => True) w w') (fun a' => ∃ σ', StI C σ' a' w S vals bss ∧ K σ') (p :: rest) a' := by
    intro a' σ' hs' hT hn hW hd'
    have hcv' := hs'.st.bool (c := .tmp c) (t := b) (by simp [noneBig, hn, hc]) rfl (show evA σ'.env (.tmp c) = _ by show σ'.env c = _; rw [hW c hcW]; exact hv)
    unfold wpQuiet
    rw [if_pos (by simp [Region.wanted, hpg])]
    refine ⟨.bool (b && b2), fun w' _ => ?_, ?_⟩
    · unfold Oper.quietAt
      have : (execOp a'.eval p).run C.P w' = .ok (.value (.bool (b && b2))) w' := by
        simp only [execOp, hp, hcv', asBool, Sem.run_bind, Sem.run_pure, Result.andThen_ok]
        cases b
        · rfl
        · rw [hd' rfl]; rfl
      rw [this]
      exact ⟨rfl, rfl⟩
    · have h3 := (hs'.era (σ' := σ) hT hn W hW).put (d := p.dst) (v := .bool (b && b2)) (x := .v (.bool (b && b2))) (TmpOK.v_ rfl)
      rw [hpd] at h3 ⊢
      exact h2 _ _ _ _ _ h3
  cases b with
  | true =>
    refine wpQuiet_mono ?_ _ _ (h1 rfl a w S vals bss hst)
    rintro a' ⟨σ', hs', e1, e2, e3, e4⟩
    refine fin a' σ' hs' e1 e2 e4 fun _ => ?_
    exact hs'.st.bool (c := .tmp d) (by simp [noneBig, e2, hdn]) rfl e3
  | false =>
    refine wpQuiet_skip (b := false) ho' hd seg a (by rw [hst.2.1]; exact hc) hcv (fun o ho => ⟨(hseg o ho).1, fun h => ((hseg o ho).2 c h).2 rfl⟩) fun a' q1 q2 q3 => ?_
    have hst' : StI C ⟨era W σ.env, σ.T, σ.n⟩ a' w S vals bss := by
      refine ⟨by rw [q1]; exact hst.1, by rw [q2]; exact hst.2.1, hst.2.2.1, fun t ht => ?_⟩
      show TmpOK _ _ _ _ _ _ (era W σ.env t)
      unfold era
      cases hcc : W.contains t
      · rw [if_neg (by simp), q3 t fun o ho h => by have := ((hseg o ho).2 t h).1; rw [hcc] at this; cases this]
        exact hst.2.2.2 t ht
      · rw [if_pos rfl]; exact TmpOK.any_
    refine fin a' _ hst' rfl rfl (fun t ht => ?_) (fun h => by cases h)
    show era W σ.env t = σ.env t
    unfold era
    rw [if_neg (by rw [ht]; simp)]
/-- a || b -/
theorem aqOr {σ : Sta} (seg rest : List Oper) (p : Oper) (W : List Nat) {g c d pd : Nat} {b : Bool} {b2 : Bool} {o' : Oper} (hl : l = seg ++ p :: rest) (ho' : ops[g]? = some o') (hd : o'.dst = some c) (hc : c < σ.n) (hv : σ.env c = .v (.bool b)) (hs : seg.all (fun o => (o.guard == some (g, false)) && (match o.dst with | some t => W.contains t && t != c | none => true)) = true) (hp : p.op = .pick (.tmp c) (.const (.bool true)) (.tmp d)) (hpg : p.guard = none) (hpd : p.dst = some pd) (hdn : d < σ.n) (hcW : W.contains c = false)
    (h1 : b = false → AQ C ops (segK σ W d b2) seg σ) (h2 : AQ C ops K rest ⟨upd (era W σ.env) pd (.v (.bool (b || b2))), σ.T, σ.n⟩) : AQ C ops K l σ := by
  subst hl
  intro a w S vals bss hst
  refine wpQuiet_append _ _ _ ?_
  have hseg : ∀ o ∈ seg, o.guard = some (g, false) ∧ (∀ t, o.dst = some t → W.contains t = true ∧ t ≠ c) := fun o ho => by
    have := List.all_eq_true.1 hs o ho
    simp only [Bool.and_eq_true, beq_iff_eq] at this
    refine ⟨this.1, fun t ht => ?_⟩
    rw [ht] at this
    simpa using this.2
  have hcv := hst.st.bool (c := .tmp c) (t := b) (by simpa [noneBig] using hc) rfl hv
  have fin : ∀ (a' : Act) (σ' : Sta), StI C σ' a' w S vals bss → σ'.T = σ.T → σ'.n = σ.n → (∀ t, W.contains t = false → σ'.env t = σ.env t) → (b = false → a'.eval (.tmp d) = .bool b2) → wpQuiet C.P ops (fun w' => Kept (fun _ => True) w w') (fun a' => ∃ σ', StI C σ' a' w S vals bss ∧ K σ') (p :: rest) a' := by
    intro a' σ' hs' hT hn hW hd'
    have hcv' := hs'.st.bool (c := .tmp c) (t := b) (by simp [noneBig, hn, hc]) rfl (show evA σ'.env (.tmp c) = _ by show σ'.env c = _; rw [hW c hcW]; exact hv)
    unfold wpQuiet
    rw [if_pos (by simp [Region.wanted, hpg])]
    refine ⟨.bool (b || b2), fun w' _ => ?_, ?_⟩
    · unfold Oper.quietAt
      have : (execOp a'.eval p).run C.P w' = .ok (.value (.bool (b || b2))) w' := by
        simp only [execOp, hp, hcv', asBool, Sem.run_bind, Sem.run_pure, Result.andThen_ok]
        cases b
        · rw [hd' rfl]; rfl
        · rfl
      rw [this]
      exact ⟨rfl, rfl⟩
    · have h3 := (hs'.era (σ' := σ) hT hn W hW).put (d := p.dst) (v := .bool (b || b2)) (x := .v (.bool (b || b2))) (TmpOK.v_ rfl)
      rw [hpd] at h3 ⊢
      exact h2 _ _ _ _ _ h3
  cases b with
  | false =>
    refine wpQuiet_mono ?_ _ _ (h1 rfl a w S vals bss hst)
    rintro a' ⟨σ', hs', e1, e2, e3, e4⟩
    refine fin a' σ' hs' e1 e2 e4 fun _ => ?_
    exact hs'.st.bool (c := .tmp d) (by simp [noneBig, e2, hdn]) rfl e3
  | true =>
    refine wpQuiet_skip (b := true) ho' hd seg a (by rw [hst.2.1]; exact hc) hcv (fun o ho => ⟨(hseg o ho).1, fun h => ((hseg o ho).2 c h).2 rfl⟩) fun a' q1 q2 q3 => ?_
    have hst' : StI C ⟨era W σ.env, σ.T, σ.n⟩ a' w S vals bss := by
      refine ⟨by rw [q1]; exact hst.1, by rw [q2]; exact hst.2.1, hst.2.2.1, fun t ht => ?_⟩
      show TmpOK _ _ _ _ _ _ (era W σ.env t)
      unfold era
      cases hcc : W.contains t
      · rw [if_neg (by simp), q3 t fun o ho h => by have := ((hseg o ho).2 t h).1; rw [hcc] at this; cases this]
        exact hst.2.2.2 t ht
      · rw [if_pos rfl]; exact TmpOK.any_
    refine fin a' _ hst' rfl rfl (fun t ht => ?_) (fun h => by cases h)
    show era W σ.env t = σ.env t
    unfold era
    rw [if_neg (by rw [ht]; simp)]
/-- A region in the order of the text that only reads. -/
theorem wpList_of_quiet {P : Program} {Q' : Exit → Act → World → Prop} {D : World → Prop} : ∀ (l : List Oper) (a : Act) (w : World), D w → wpQuiet P ops D (fun a' => ∀ w', D w' → Q' .normal a' w') l a → wpList P ops Q' l a w
  | [], a, w, hw, h => h w hw
  | o :: l, a, w, hw, h => by
    refine wpList_step fun K' hK => ?_
    unfold wpQuiet at h
    split
    · rename_i hwn
      rw [if_pos hwn] at h
      exact Oper.wp_of_quiet hw (fun a' w' hw' hk => hK _ _ (wpList_of_quiet l a' w' hw' hk)) h
    · rename_i hwn
      rw [if_neg hwn] at h
      exact hK _ _ (wpList_of_quiet l _ w hw h)
theorem AWL.quiet {σ : Sta} (h : AQ C ops (Q .normal) l σ) : AWL C ops Q l σ := by
  intro a w ⟨hd, hn, S, vals, bss, hme, he⟩
  refine wpList_of_quiet (D := fun w' => Kept (fun _ => True) w w') l a w (Kept.refl _ _) ?_
  refine wpQuiet_mono ?_ _ _ (h a w S vals bss ⟨hd, hn, hme, he⟩)
  rintro a' ⟨σ', hs, hq⟩ w' hk'
  obtain ⟨h1, h2, h3, h4⟩ := hs.grow hk'
  exact ⟨σ', ⟨h1, h2, S, vals, bss, h3, h4⟩, hq⟩
end
end Go.Proofs.Ytmihcabjoodogaa
namespace Go.Proofs.Ytmihcabjoodogaa
open Go.RowKit
set_option linter.unusedSimpArgs false
set_option linter.unusedVariables false
section
variable {P : Program} {fn : Func} {σ : Sta} {e : Exit}
/-- The end of a body without slots that came in: its results, one behind the other. -/
inductive Rets (P : Program) (σ : Sta) : List ResultVar → List Nat → List AV → Prop
  | nil : Rets P σ [] [] []
  | tmp {t rs us y ys} (ht : t < σ.n) (hy : σ.env t = y) (hc : nrefA y = true) (h : Rets P σ rs us ys) : Rets P σ (.tmp t :: rs) us (y :: ys)
  | own {t rs us ys r k ty es len} (ht : t < σ.n) (hy : σ.env t = .sl r k 0 len) (hT : σ.T.slots[r]? = some (k, .own ty es)) (hl : len = es.length) (hu : r ∉ us) (h : Rets P σ rs us ys) : Rets P σ (.tmp t :: rs) (r :: us) (.own ty es :: ys)
  | cell {t ty rs us ys r k i j et es row n cs} (ht : t < σ.n) (hy : σ.env t = .ptr r k i j) (hT : σ.T.slots[r]? = some (k, .own et es)) (hrow : es[i]? = some row) (ha : aggB P ty = some true) (hs : sizeIs P ty n) (hn : j + n ≤ row.length) (hc : ((row.drop j).take n).map ldc = cs) (hr : cs.all nref1 = true) (h : Rets P σ rs us ys) : Rets P σ (.cell t ty :: rs) us (.agg cs :: ys)
  | cell1 {t ty rs us ys r k i j et es row y} (ht : t < σ.n) (hy : σ.env t = .ptr r k i j) (hT : σ.T.slots[r]? = some (k, .own et es)) (hrow : es[i]? = some row) (ha : aggB P ty = some false) {x : AV} (hx : row[j]? = some x) (hc : ldc x = y) (hr : nrefA y = true) (h : Rets P σ rs us ys) : Rets P σ (.cell t ty :: rs) us (y :: ys)
theorem clo_of_nref {n : Nat} {y : AV} (h : nrefA y = true) : cloA n y = true := by
  have one : ∀ x, nref1 x = true → clo1 n x = true := fun x h => by cases x <;> first | rfl | cases h
  cases y with
  | agg cs =>
    simp only [nrefA, cloA, List.all_eq_true] at h ⊢
    exact fun x hx => one x (h x hx)
  | _ => simp only [nrefA, cloA] at h ⊢; exact one _ h
theorem Rets.out {n0 : Nat} : ∀ {rs : List ResultVar} {us : List Nat} {ys : List AV}, Rets P σ rs us ys → (∀ r ∈ us, n0 ≤ r) → ∃ zs, RL (ResIs P σ) rs zs ∧ Gives σ.T n0 us zs ys
  | _, _, _, .nil, _ => ⟨[], RL.nil, .nil⟩
  | _, _, _, .tmp ht hy hc h, hu => by
    obtain ⟨zs, h1, h2⟩ := h.out hu
    exact ⟨_, RL.cons ⟨ht, hy⟩ h1, .keep (clo_of_nref hc) h2⟩
  | _, _, _, .own ht hy hT hl hn h, hu => by
    obtain ⟨zs, h1, h2⟩ := h.out fun r hr => hu r (by simp [hr])
    exact ⟨_, RL.cons ⟨ht, hy⟩ h1, .own hT hl (hu _ (by simp)) hn h2⟩
  | _, _, _, .cell ht hy hT hrow ha hs hn hc hr h, hu => by
    obtain ⟨zs, h1, h2⟩ := h.out hu
    exact ⟨_, RL.cons ⟨ht, _, _, _, _, _, _, _, hy, hT, hrow, .inl ⟨ha, _, hs, hn, by exact hc, _, rfl⟩⟩ h1, .keep (clo_of_nref hr) h2⟩
  | _, _, _, .cell1 ht hy hT hrow ha hx hc hr h, hu => by
    obtain ⟨zs, h1, h2⟩ := h.out hu
    exact ⟨_, RL.cons ⟨ht, _, _, _, _, _, _, _, hy, hT, hrow, .inr ⟨ha, _, hx, hc⟩⟩ h1, .keep (clo_of_nref hr) h2⟩
theorem RQ.of {n0 : Nat} {rs : List ResultVar} {us : List Nat} {ys outs : List AV} (he : e = .ret ∨ e = .normal) (hr : fn.results.toList = rs) (h : Rets P σ rs us ys) (hu : ∀ r ∈ us, n0 ≤ r) (hl : outs.length = n0) (ho : ∀ (r : Nat) (x : AV), outs[r]? = some x → σ.T.slots[r]? = some (0, x)) : RQ P fn n0 (fun a b => a = ys ∧ b = outs) e σ := by
  obtain ⟨zs, h1, h2⟩ := h.out hu
  rcases he with rfl | rfl <;> exact ⟨zs, ys, us, outs, by rw [hr]; exact h1, h2, hl, ho, rfl, rfl⟩
theorem RQ.of0 {rs : List ResultVar} {us : List Nat} {ys : List AV} (hr : fn.results.toList = rs) (h : Rets P σ rs us ys) (he : e = .ret ∨ e = .normal := by first | exact .inl rfl | exact .inr rfl) : RQ P fn 0 (fun a b => a = ys ∧ b = []) e σ :=
  RQ.of he hr h (fun _ _ => Nat.zero_le _) rfl (by simp)
end
/-- A state that is known at some places. -/
def updL (env : Nat → AV) : List (Nat × AV) → (Nat → AV)
  | [] => env
  | (t, x) :: l => upd (updL env l) t x
def AllEq (env : Nat → AV) : List (Nat × AV) → Prop
  | [] => True
  | (t, x) :: l => env t = x ∧ AllEq env l
theorem updL_self {env : Nat → AV} : ∀ {l : List (Nat × AV)}, AllEq env l → updL env l = env
  | [], _ => rfl
  | (t, x) :: l, ⟨h1, h2⟩ => by
    funext q
    unfold updL upd
    rw [updL_self h2]
    split
    · rename_i h; rw [h, h1]
    · rfl
section
variable {C : Cx} {Q : Exit → Sta → Prop} {σ : Sta}
/-- A loop; i says in which state a round begins. -/
theorem AW.loopI {ι : Type} {c : Code} (l : ι → List (Nat × AV)) (T : ι → Sl) (H : ι → Prop) (μ : ι → Nat) (i0 : ι) (h0 : H i0) (he : AllEq σ.env (l i0)) (hT : σ.T = T i0)
    (round : ∀ i ρ, H i → AW C c (thenE (fun σ' => ∃ i', H i' ∧ μ i' < μ i ∧ AllEq σ'.env (l i') ∧ σ'.T = T i' ∧ σ'.n = σ.n) Q) ⟨updL ρ (l i), T i, σ.n⟩) : AW C (.loop c) Q σ := by
  intro a w hs b k cs
  have key : ∀ n i σ' a w, μ i = n → H i → AllEq σ'.env (l i) → σ'.T = T i → σ'.n = σ.n → St C σ' a w →
      ∃ e a' w', hat C Q e a' w' ∧ Arrives C.P (lone (b.at a (.code c :: .inLoop c :: k)) cs w) b k cs e a' w' := by
    intro n
    induction n using Nat.strongRecOn with
    | _ n ih =>
      intro i σ' a w hi hH he' hT' hn' hs
      have hr := round i σ'.env hH
      rw [updL_self he', ← hT', ← hn'] at hr
      obtain ⟨e, a₁, w₁, ⟨σ₁, hs₁, hq⟩, harr⟩ := hr a w hs b (.inLoop c :: k) cs
      cases e with
      | normal =>
        obtain ⟨i', g1, g2, g3, g4, g5⟩ := hq
        obtain ⟨e₂, a₂, w₂, hq₂, harr₂⟩ := ih (μ i') (hi ▸ g2) i' σ₁ a₁ w₁ rfl g1 g3 g4 (by rw [g5, hn']) hs₁
        exact ⟨e₂, a₂, w₂, hq₂, .of_steps (Steps.trans harr (.one step_inLoop)) harr₂⟩
      | exit id => exact ⟨_, a₁, w₁, ⟨σ₁, hs₁, hq⟩, .pass (x := .inLoop c) rfl (fun _ _ => .inl (by simp)) harr⟩
      | goto l => exact ⟨_, a₁, w₁, ⟨σ₁, hs₁, hq⟩, .pass (x := .inLoop c) rfl (fun _ _ => .inl (by simp)) harr⟩
      | ret => exact ⟨_, a₁, w₁, ⟨σ₁, hs₁, hq⟩, .pass (x := .inLoop c) rfl (fun _ _ => .inl (by simp)) harr⟩
      | panic ch => exact ⟨_, a₁, w₁, ⟨σ₁, hs₁, hq⟩, .pass (x := .inLoop c) rfl (fun _ _ => .inl (by simp)) harr⟩
      | outgrown => exact ⟨_, a₁, w₁, ⟨σ₁, hs₁, hq⟩, .pass (x := .inLoop c) rfl (fun _ _ => .inl (by simp)) harr⟩
  obtain ⟨e, a', w', hq, harr⟩ := key _ i0 σ a w rfl h0 he hT rfl hs
  exact ⟨e, a', w', hq, .of_steps (.one step_loop) harr⟩
end
end Go.Proofs.Ytmihcabjoodogaa
namespace Go.Proofs.Ytmihcabjoodogaa
open Go.RowKit
set_option linter.unusedSimpArgs false
set_option linter.unusedVariables false
section
variable {C : Cx} {o : Oper} {ev : Operand → AV} {T : Sl} {t yt : TypeId} {p q : Operand} {x y : Int}
theorem op_addi (ho : o.op = .binOp .add t p q yt) (hp : ev p = .v (.int .i64 x)) (hq : ev q = .v (.int .i64 y)) (h : -9223372036854775808 ≤ x + y ∧ x + y ≤ 9223372036854775807) : OpP C o ev T (.v (.int .i64 (x + y))) := op_add ho hp hq (IntWalk.i64_in _ h)
theorem op_subi (ho : o.op = .binOp .sub t p q yt) (hp : ev p = .v (.int .i64 x)) (hq : ev q = .v (.int .i64 y)) (h : -9223372036854775808 ≤ x - y ∧ x - y ≤ 9223372036854775807) : OpP C o ev T (.v (.int .i64 (x - y))) := op_sub ho hp hq (IntWalk.i64_in _ h)
end
section
variable {C : Cx} {K : Sta → Prop} {ops : Array Oper} {o : Oper} {l : List Oper} {env : Nat → AV} {T : Sl} {n : Nat}
/-- The operation without the guard (g, b). -/
def ung (g : Nat) (b : Bool) (o : Oper) : Oper := ⟨o.dst, o.op, o.type, o.pos, o.after, if o.guard == some (g, b) then none else o.guard⟩
theorem execOp_ung (g : Nat) (b : Bool) (o : Oper) (ρ : Operand → Value) : execOp ρ (ung g b o) = execOp ρ o := by
  cases o; rfl
theorem wpQuiet_ung {P : Program} {D : World → Prop} {Q : Act → Prop} {g c : Nat} {o' : Oper} {b : Bool} (ho' : ops[g]? = some o') (hd : o'.dst = some c) : ∀ (seg : List Oper) (a : Act), c < a.tmps.size → a.eval (.tmp c) = .bool b → (∀ o ∈ seg, o.dst ≠ some c) → wpQuiet P ops D Q (seg.map (ung g b)) a → wpQuiet P ops D Q seg a
  | [], a, _, _, _, h => h
  | o :: seg, a, hlt, hb, hs, h => by
    have hne := hs o (by simp)
    have keep : ∀ v, (a.put o.dst v).eval (.tmp c) = .bool b := fun v => by
      show (a.put o.dst v).tmps.getD c undef = _
      rw [Act.getD_put, if_neg (fun h => hne h.1)]; exact hb
    have hwant : Region.wanted (ung g b o) (yielded ops a.tmps) = Region.wanted o (yielded ops a.tmps) := by
      unfold ung
      by_cases hg : o.guard = some (g, b)
      · have e : (a.tmps)[c]? = some (.bool b) := by
          have hb' := hb
          simp [Act.eval, hlt] at hb'
          simp [hlt, hb']
        simp [Region.wanted, hg, yielded, ho', hd, e]
      · have : (o.guard == some (g, b)) = false := by rw [beq_eq_false_iff_ne]; exact hg
        simp [Region.wanted, this]
    rw [List.map_cons] at h
    unfold wpQuiet at h ⊢
    rw [hwant] at h
    split
    · rename_i hw
      rw [if_pos hw] at h
      obtain ⟨v, h1, h2⟩ := h
      refine ⟨v, fun w hw' => ?_, wpQuiet_ung ho' hd seg _ (by rw [Act.size_put]; exact hlt) (keep v) (fun o h => hs o (by simp [h])) h2⟩
      have := h1 w hw'
      unfold Oper.quietAt at this ⊢
      rw [execOp_ung] at this
      exact this
    · rename_i hw
      rw [if_neg hw] at h
      exact wpQuiet_ung ho' hd seg _ (by rw [Act.size_put]; exact hlt) (keep undef) (fun o h => hs o (by simp [h])) h
theorem AQ.ung {σ : Sta} {seg : List Oper} {g c : Nat} {o' : Oper} {b : Bool} (ho' : ops[g]? = some o') (hd : o'.dst = some c) (hc : c < σ.n) (hv : σ.env c = .v (.bool b)) (hs : ∀ o ∈ seg, o.dst ≠ some c) (h : AQ C ops K (seg.map (ung g b)) σ) : AQ C ops K seg σ := by
  intro a w S vals bss hst
  exact wpQuiet_ung ho' hd seg a (by rw [hst.2.1]; exact hc) (hst.st.bool (c := .tmp c) (by simpa [noneBig] using hc) rfl hv) hs (h a w S vals bss hst)
/-- 'a && b' ahead: the segment under the guard (g, true), then the pick. -/
theorem aqAnd' {g c d pd : Nat} {b b2 : Bool} {p : Oper} {rest : List Oper} {o' : Oper} (seg : List Oper) (W : List Nat) (hl : l = seg ++ p :: rest) (hg0 : (match l with | o :: _ => o.guard | [] => none) = some (g, true)) (ho' : ops[g]? = some o') (hd : o'.dst = some c) (hc : Nat.ble (c + 1) n = true) (hv : env c = .v (.bool b)) (hs : seg.all (fun o => (o.guard == some (g, true)) && (match o.dst with | some t => W.contains t && t != c | none => true)) = true) (hp : p.op = .pick (.tmp c) (.tmp d) (.const (.bool false))) (hpg : p.guard = none) (hpd : p.dst = some pd) (hdn : Nat.ble (d + 1) n = true) (hcW : W.contains c = false)
    (h1 : b = true → AQ C ops (segK ⟨env, T, n⟩ W d b2) (seg.map (ung g true)) ⟨env, T, n⟩) (h2 : AQ C ops K rest ⟨upd (era W env) pd (.v (.bool (b && b2))), T, n⟩) : AQ C ops K l ⟨env, T, n⟩ :=
  aqAnd seg rest p W hl ho' hd (Nat.le_of_ble_eq_true hc) hv hs hp hpg hpd (Nat.le_of_ble_eq_true hdn) hcW (fun hb => AQ.ung ho' hd (Nat.le_of_ble_eq_true hc) (by subst hb; exact hv) (fun o ho h => by
    have := List.all_eq_true.1 hs o ho
    rw [h] at this
    simp at this) (h1 hb)) h2
theorem aqOr' {g c d pd : Nat} {b b2 : Bool} {p : Oper} {rest : List Oper} {o' : Oper} (seg : List Oper) (W : List Nat) (hl : l = seg ++ p :: rest) (hg0 : (match l with | o :: _ => o.guard | [] => none) = some (g, false)) (ho' : ops[g]? = some o') (hd : o'.dst = some c) (hc : Nat.ble (c + 1) n = true) (hv : env c = .v (.bool b)) (hs : seg.all (fun o => (o.guard == some (g, false)) && (match o.dst with | some t => W.contains t && t != c | none => true)) = true) (hp : p.op = .pick (.tmp c) (.const (.bool true)) (.tmp d)) (hpg : p.guard = none) (hpd : p.dst = some pd) (hdn : Nat.ble (d + 1) n = true) (hcW : W.contains c = false)
    (h1 : b = false → AQ C ops (segK ⟨env, T, n⟩ W d b2) (seg.map (ung g false)) ⟨env, T, n⟩) (h2 : AQ C ops K rest ⟨upd (era W env) pd (.v (.bool (b || b2))), T, n⟩) : AQ C ops K l ⟨env, T, n⟩ :=
  aqOr seg rest p W hl ho' hd (Nat.le_of_ble_eq_true hc) hv hs hp hpg hpd (Nat.le_of_ble_eq_true hdn) hcW (fun hb => AQ.ung ho' hd (Nat.le_of_ble_eq_true hc) (by subst hb; exact hv) (fun o ho h => by
    have := List.all_eq_true.1 hs o ho
    rw [h] at this
    simp at this) (h1 hb)) h2
/-- A segment has come to its end. -/
theorem aqSeg {env0 : Nat → AV} {T0 : Sl} {n0 : Nat} {W : List Nat} {d : Nat} {b2 : Bool} (hT : T = T0) (hn : n = n0) (hv : env d = .v (.bool b2)) (hW : ∀ t, W.contains t = false → env t = env0 t) : AQ C ops (segK ⟨env0, T0, n0⟩ W d b2) [] ⟨env, T, n⟩ := AQ.nil ⟨hT, hn, hv, hW⟩
theorem upd_out {env env0 : Nat → AV} {W : List Nat} {d : Nat} {x : AV} (hd : W.contains d = true) (h : ∀ t, W.contains t = false → env t = env0 t) : ∀ t, W.contains t = false → upd env d x t = env0 t := fun t ht => by
  unfold upd
  rw [if_neg]
  · exact h t ht
  · intro e; subst e; rw [hd] at ht; cases ht
theorem era_out {env env0 : Nat → AV} {W W' : List Nat} (hd : W'.all (fun t => W.contains t) = true) (h : ∀ t, W.contains t = false → env t = env0 t) : ∀ t, W.contains t = false → era W' env t = env0 t := fun t ht => by
  unfold era
  rw [if_neg]
  · exact h t ht
  · intro e
    have := List.all_eq_true.1 hd t (by simpa using e)
    rw [this] at ht; cases ht
end
end Go.Proofs.Ytmihcabjoodogaa
namespace Go.Proofs.Ytmihcabjoodogaa
open Go.RowKit
set_option linter.unusedSimpArgs false
set_option linter.unusedVariables false
section
variable {C : Cx} {T : Sl} {S S2 : Nat → Prop} {vals : List Value} {bss : List (List Nat)} {w w' : World}
theorem Mem.set2 {r k : Nat} {x x' : AV} {v : Value} {bs bs' : List Nat} (hm : Mem C T S vals bss w) (hs : T.slots[r]? = some (k, x)) (hv : vals[r]? = some v) (hb : bss[r]? = some bs) (hk : Kept (fun q => q ∉ bs) w w')
    (h1S : ∀ q, S q → S2 q) (h2S : ∀ q, S2 q → S q ∨ ((w.heap.size ≤ q ∨ q ∈ bs) ∧ q < w'.heap.size ∧ q ∉ bs')) (hr : Rep C.P S2 w' bs' v x') (hn : bs'.Nodup) (hsub : ∀ b ∈ bs', b ∈ bs ∨ w.heap.size ≤ b)
    (ho : ∀ e es, x' = .own e es → ∃ es0, x = .own e es0 ∧ es0.length = es.length) (hom : ∀ b ks, x' = .om b ks → ∃ ks0, x = .om b ks0) :
    Mem C ⟨T.slots.set r (k, x'), T.ep⟩ S2 vals (bss.set r bs') w' ∧ Follows C.P S w T vals S2 w' ⟨T.slots.set r (k, x'), T.ep⟩ vals := by
  have hrl : r < T.slots.length := (List.getElem?_eq_some_iff.1 hs).1
  have hkS : ∀ q, q < w.heap.size → S q → q ∉ bs := fun q _ hq hqb => hm.apart r bs hb q hqb hq
  constructor
  · refine ⟨hm.kept.then hk fun q hq hq' hqb => ?_, fun q h => h1S q (hm.s0 q h), fun q h => ?_, fun q h => ?_, by simp [hm.nv], by simp [hm.nb], ?_, ?_, ?_, ?_, ?_, ?_, ?_, hm.pos⟩
    · rcases hm.mine r bs hb q hqb with h | h
      · exact hq' h
      · omega
    · rcases h2S q h with h | ⟨h | h, _⟩
      · exact hm.sub q h
      · have := hm.kept.size; exact .inr (.inr (by omega))
      · exact .inr (hm.mine r bs hb q h)
    · rcases h2S q h with h | ⟨_, h, _⟩
      · exact Nat.lt_of_lt_of_le (hm.lt q h) hk.size
      · exact h
    · intro q kq y u b1 h1 h2 h3
      rw [getElem?_set_ _ _ _ _ hrl] at h1
      rw [getElem?_set_ _ _ _ _ (by rw [hm.nb]; exact hrl)] at h3
      by_cases h : r = q
      · rw [if_pos h] at h1 h3
        subst h
        rw [hv] at h2
        injection h1 with h1; injection h1 with _ h1
        injection h2 with h2; injection h3 with h3
        subst h1; subst h2; subst h3
        exact hr
      · rw [if_neg h] at h1 h3
        exact ((hm.rep q kq y u b1 h1 h2 h3).kept hk hkS fun b hb' hbb => hm.disj r q bs b1 h hb h3 b hbb hb').mono fun q _ => h1S q
    · intro q b1 h3
      rw [getElem?_set_ _ _ _ _ (by rw [hm.nb]; exact hrl)] at h3
      split at h3
      · injection h3 with h3; subst h3; exact hn
      · exact hm.nodup q b1 h3
    · intro q q' b1 b2 hne h1 h2 b hb1 hb2
      rw [getElem?_set_ _ _ _ _ (by rw [hm.nb]; exact hrl)] at h1 h2
      split at h1
      · rename_i e1
        injection h1 with h1; subst h1
        rw [if_neg (fun e2 => hne (e1.symm.trans e2))] at h2
        rcases hsub b hb1 with h | h
        · exact hm.disj r q' bs b2 (fun e2 => hne (e1.symm.trans e2)) hb h2 b h hb2
        · have := hm.blt h2 b hb2; omega
      · rename_i e1
        split at h2
        · injection h2 with h2; subst h2
          rename_i e2
          rcases hsub b hb2 with h | h
          · exact hm.disj r q bs b1 e1 hb h1 b h hb1
          · have := hm.blt h1 b hb1; omega
        · exact hm.disj q q' b1 b2 hne h1 h2 b hb1 hb2
    · intro q b1 h1 b hb1 hSb
      rw [getElem?_set_ _ _ _ _ (by rw [hm.nb]; exact hrl)] at h1
      split at h1
      · injection h1 with h1; subst h1
        rcases h2S b hSb with hSb | ⟨_, _, h⟩
        · rcases hsub b hb1 with h | h
          · exact hm.apart r bs hb b h hSb
          · have := hm.lt b hSb; omega
        · exact h hb1
      · rename_i e1
        rcases h2S b hSb with hSb | ⟨h | h, _⟩
        · exact hm.apart q b1 h1 b hb1 hSb
        · have := hm.blt h1 b hb1; omega
        · exact hm.disj r q bs b1 e1 hb h1 b h hb1
    · intro q b1 h1 b hb1
      rw [getElem?_set_ _ _ _ _ (by rw [hm.nb]; exact hrl)] at h1
      split at h1
      · injection h1 with h1; subst h1
        rcases hsub b hb1 with h | h
        · exact hm.mine r bs hb b h
        · have := hm.kept.size; right; omega
      · exact hm.mine q b1 h1 b hb1
    · intro q y hlt h
      rw [getElem?_set_ _ _ _ _ hrl] at h
      split at h
      · rename_i e1
        injection h with h; injection h with h _
        subst e1
        exact hm.root r x hlt (by rw [hs, h])
      · exact hm.root q y hlt h
    · intro q kq y h
      rw [getElem?_set_ _ _ _ _ hrl] at h
      show kq < T.ep
      split at h
      · injection h with h; injection h with h _
        have := hm.ver r k x hs
        omega
      · exact hm.ver q kq y h
  · intro u y h
    have old : ∀ (q kq : Nat) (y' : AV), (T.slots.set r (k, x'))[q]? = some (kq, y') → T.slots[q]? = some (kq, y') ∨ (r = q ∧ kq = k ∧ x' = y') := fun q kq y' h => by
      rw [getElem?_set_ _ _ _ _ hrl] at h
      split at h
      · rename_i e1
        injection h with h; injection h with h h'
        exact .inr ⟨e1, h.symm, h'⟩
      · exact .inl h
    cases y with
    | sl q kq off len =>
      refine ⟨h.1, h.2.1, fun e es v2 sz h1 h2 h3 => ?_⟩
      rcases old q kq _ h1 with h4 | ⟨rfl, rfl, hx⟩
      · exact h.2.2 e es v2 sz h4 h2 h3
      · obtain ⟨es0, hx0, hl⟩ := ho e es hx
        rw [← hl]
        exact h.2.2 e es0 v2 sz (by rw [hs, hx0]) h2 h3
    | ptr q kq i j =>
      refine ⟨h.1, h.2.1, fun e es v2 sz h1 h2 h3 => ?_⟩
      rcases old q kq _ h1 with h4 | ⟨rfl, rfl, hx⟩
      · exact h.2.2 e es v2 sz h4 h2 h3
      · obtain ⟨es0, hx0, hl⟩ := ho e es hx
        rw [← hl]
        exact h.2.2 e es0 v2 sz (by rw [hs, hx0]) h2 h3
    | mp q kq =>
      refine ⟨h.1, h.2.1, fun b ks v2 h1 h2 => ?_⟩
      rcases old q kq _ h1 with h4 | ⟨rfl, rfl, hx⟩
      · exact h.2.2 b ks v2 h4 h2
      · obtain ⟨ks0, hx0⟩ := hom b ks hx
        exact h.2.2 b ks0 v2 (by rw [hs, hx0]) h2
    | _ => exact RefOK.kept (T := T) h hk hkS h1S
theorem unp_ok2 : ∀ (ys : List AV) (us : List Value) (bsr : List (List Nat)) (T : Sl) (vals : List Value) (bss : List (List Nat)), Mem C T S vals bss w → us.length = ys.length → bsr.length = ys.length →
    (∀ (i : Nat) (u : Value) (y : AV) (bs : List Nat), us[i]? = some u → ys[i]? = some y → bsr[i]? = some bs → Rep C.P S w bs u y ∨ (bs = [] ∧ AggOK C.P S w T vals u y)) →
    Own2 bsr → (∀ b, InL bsr b → ¬ InL bss b ∧ ¬ S b ∧ (b ∈ C.own0 ∨ C.w0.heap.size ≤ b)) →
    ∃ vals' bss', Mem C (unp ys T).2 S vals' bss' w ∧ Follows C.P S w T vals S w (unp ys T).2 vals' ∧ RL (AggOK C.P S w (unp ys T).2 vals') us (unp ys T).1
  | [], us, bsr, T, vals, bss, hm, h1, h2, _, _, _ => by
    have : us = [] := List.eq_nil_of_length_eq_zero h1
    subst this
    exact ⟨vals, bss, hm, Follows.refl, RL.nil⟩
  | y :: ys, [], _, _, _, _, _, h1, _, _, _, _ => by simp at h1
  | y :: ys, u :: us, [], _, _, _, _, _, h2, _, _, _ => by simp at h2
  | y :: ys, u :: us, bs :: bsr, T, vals, bss, hm, h1, h2, h3, h4, h5 => by
    have hd := h3 0 u y bs rfl rfl rfl
    have htl : ∀ (i : Nat) (u : Value) (y : AV) (b : List Nat), us[i]? = some u → ys[i]? = some y → bsr[i]? = some b → Rep C.P S w b u y ∨ (b = [] ∧ AggOK C.P S w T vals u y) := fun i u y b q1 q2 q3 => h3 (i + 1) u y b (by simpa using q1) (by simpa using q2) (by simpa using q3)
    have hown : Own2 bsr := ⟨fun r b h => h4.nodup (r + 1) b (by simpa using h), fun r r' b b' hne q1 q2 => h4.disj (r + 1) (r' + 1) b b' (by omega) (by simpa using q1) (by simpa using q2)⟩
    have hin : ∀ b, InL bsr b → InL (bs :: bsr) b := fun b ⟨r, b1, q1, q2⟩ => ⟨r + 1, b1, by simpa using q1, q2⟩
    have plain : (∀ e es, y ≠ .own e es) → AggOK C.P S w T vals u y ∧ bs = bs → ∃ vals' bss', Mem C (unp (y :: ys) T).2 S vals' bss' w ∧ Follows C.P S w T vals S w (unp (y :: ys) T).2 vals' ∧ RL (AggOK C.P S w (unp (y :: ys) T).2 vals') (u :: us) (unp (y :: ys) T).1 := by
      intro hne ⟨ha, _⟩
      obtain ⟨vals', bss', g1, g2, g3⟩ := unp_ok2 ys us bsr T vals bss hm (by simpa using h1) (by simpa using h2) htl hown fun b hb => h5 b (hin b hb)
      have e : unp (y :: ys) T = (y :: (unp ys T).1, (unp ys T).2) := by
        cases y <;> first | rfl | (exact absurd rfl (hne _ _))
      rw [e]
      exact ⟨vals', bss', g1, g2, RL.cons (AggOK.follows g2 ha) g3⟩
    by_cases ho : ∃ e es, y = .own e es
    · obtain ⟨e, es, rfl⟩ := ho
      have hrep : ∃ b0, Rep C.P S w b0 u (.own e es) ∧ b0.Nodup ∧ (∀ b ∈ b0, b ∈ bs) := by
        rcases hd with h | ⟨rfl, h⟩
        · exact ⟨bs, h, h4.nodup 0 bs rfl, fun b h => h⟩
        · exact ⟨[], h, by simp, by simp⟩
      obtain ⟨b0, hr, hnd, hsub⟩ := hrep
      obtain ⟨hm', hf⟩ := hm.push2 hr hnd fun b hb => h5 b ⟨0, bs, rfl, hsub b hb⟩
      obtain ⟨vals', bss', g1, g2, g3⟩ := unp_ok2 ys us bsr (pushT T (.own e es)) (vals ++ [u]) (bss ++ [b0]) hm' (by simpa using h1) (by simpa using h2) (fun i u y b q1 q2 q3 => (htl i u y b q1 q2 q3).imp id fun h => ⟨h.1, AggOK.follows hf h.2⟩) hown fun b hb => by
        obtain ⟨q1, q2, q3⟩ := h5 b (hin b hb)
        refine ⟨fun ⟨r, b1, p1, p2⟩ => ?_, q2, q3⟩
        rw [getElem?_snoc] at p1
        split at p1
        · exact q1 ⟨r, b1, p1, p2⟩
        · split at p1
          · injection p1 with p1
            subst p1
            obtain ⟨r', b2, p3, p4⟩ := hb
            exact h4.disj 0 (r' + 1) bs b2 (by omega) rfl (by simpa using p3) b (hsub b p2) p4
          · cases p1
      refine ⟨vals', bss', g1, fun u x h => g2 u x (hf u x h), RL.cons ?_ g3⟩
      have hp := push_sl (C := C) (S := S) (T := T) hm.nv hr
      exact AggOK.follows g2 (show AggOK C.P S w _ _ u (.sl T.slots.length T.ep 0 es.length) from hp)
    · refine plain (fun e es h => ho ⟨e, es, h⟩) ⟨?_, rfl⟩
      rcases hd with h | ⟨rfl, h⟩
      · cases h with
        | own => exact absurd ⟨_, _, rfl⟩ ho
        | any h => trivial
        | v h => exact Rep.v h
        | sln a b => exact Rep.sln a b
        | ro a b c d e f => exact Rep.ro a b c d e f
        | rof a b c d e => exact Rep.rof a b c d e
        | rop a b c => exact Rep.rop a b c
        | clo a b => exact Rep.clo a b
        | bm a b => exact Rep.bm a b
        | nm h => exact Rep.one h
        | byt => rfl
        | om => rfl
      · exact h
/-- References to the callee's slot 0 are references to the caller's slot. -/
def ren1 (r k : Nat) : AV → AV
  | .sl _ _ off len => .sl r k off len
  | .ptr _ _ i j => .ptr r k i j
  | .mp _ _ => .mp r k
  | x => x
def renA (r k : Nat) : AV → AV
  | .agg cs => .agg (cs.map (ren1 r k))
  | x => ren1 r k x
theorem ren1_ok {P : Program} {x : AV} {T' : Sl} {vals' : List Value} {v : Value} {r k : Nat} (hs : T'.slots[r]? = some (k, x)) (hv : vals'[r]? = some v) (hk : k < T'.ep) {u : Value} {y : AV} (h : RefOK P S w (insT [x]) [v] u y) (hc : clo1 1 y = true) : RefOK P S w T' vals' u (ren1 r k y) := by
  cases y with
  | sl q kq off len =>
    simp only [clo1, Bool.and_eq_true, beq_iff_eq, decide_eq_true_eq] at hc
    obtain ⟨hc1, rfl⟩ := hc
    obtain rfl : q = 0 := by omega
    refine ⟨hk, h.2.1, fun e es v2 sz h1 h2 h3 => ?_⟩
    rw [hs] at h1; injection h1 with h1; injection h1 with _ h1
    rw [hv] at h2; injection h2 with h2
    subst h2
    exact h.2.2 e es v sz (by rw [h1]; rfl) rfl h3
  | ptr q kq i j =>
    simp only [clo1, Bool.and_eq_true, beq_iff_eq, decide_eq_true_eq] at hc
    obtain ⟨hc1, rfl⟩ := hc
    obtain rfl : q = 0 := by omega
    refine ⟨hk, h.2.1, fun e es v2 sz h1 h2 h3 => ?_⟩
    rw [hs] at h1; injection h1 with h1; injection h1 with _ h1
    rw [hv] at h2; injection h2 with h2
    subst h2
    exact h.2.2 e es v sz (by rw [h1]; rfl) rfl h3
  | mp q kq =>
    simp only [clo1, Bool.and_eq_true, beq_iff_eq, decide_eq_true_eq] at hc
    obtain ⟨hc1, rfl⟩ := hc
    obtain rfl : q = 0 := by omega
    refine ⟨hk, h.2.1, fun b ks v2 h1 h2 => ?_⟩
    rw [hs] at h1; injection h1 with h1; injection h1 with _ h1
    rw [hv] at h2; injection h2 with h2
    subst h2
    exact h.2.2 b ks v (by rw [h1]; rfl) rfl
  | _ => exact h
theorem renA_ok {P : Program} {x : AV} {T' : Sl} {vals' : List Value} {v : Value} {r k : Nat} (hs : T'.slots[r]? = some (k, x)) (hv : vals'[r]? = some v) (hk : k < T'.ep) {u : Value} {y : AV} (h : AggOK P S w (insT [x]) [v] u y) (hc : cloA 1 y = true) : AggOK P S w T' vals' u (renA r k y) := by
  cases y with
  | any => trivial
  | agg cs =>
    obtain ⟨us, e, rl⟩ := h
    simp only [cloA, List.all_eq_true] at hc
    refine ⟨us, e, by simp [rl.1], fun i u x hu hx => ?_⟩
    rw [List.getElem?_map] at hx
    cases hq : cs[i]? with
    | none => rw [hq] at hx; cases hx
    | some c =>
      rw [hq] at hx
      simp only [Option.map_some, Option.some.injEq] at hx
      subst hx
      exact ren1_ok hs hv hk (rl.2 i u c hu hq) (hc c (List.mem_of_getElem? hq))
  | _ => simp only [AggOK, renA, ren1] at h ⊢; exact ren1_ok hs hv hk h hc
theorem Rep.ren {P : Program} {bs : List Nat} {u : Value} {y : AV} (h : Rep P S w bs u y) (r k : Nat) : Rep P S w bs u (renA r k y) := by
  cases y with
  | agg cs => exact absurd rfl (h.plain cs).1
  | sl => cases h
  | ptr => cases h
  | mp => cases h
  | _ => exact h
/-- What an argument is lent as, slot r being lent for writing. -/
inductive View1 (T : Sl) (r k : Nat) : AV → AV → Prop
  | base {y x} (h : View T false y x) : View1 T r k y x
  | ptr {i j} : View1 T r k (.ptr r k i j) (.ptr 0 0 i j)
  | sl {off len} : View1 T r k (.sl r k off len) (.sl 0 0 off len)
variable {o : Oper} {ev : Operand → AV}
theorem view1_ok (hm : Mem C T S vals bss w) {r k : Nat} {x0 : AV} {v : Value} (hs : T.slots[r]? = some (k, x0)) (hv : vals[r]? = some v) {y x : AV} (h : View1 T r k y x) {u : Value} (hu : TmpOK C.P S w T vals u y) : AggOK C.P S w (insT [x0]) [v] u x := by
  have low : ∀ (q kq : Nat) (z : AV), (insT [x0]).slots[q]? = some (kq, z) → q = 0 ∧ kq = 0 ∧ z = x0 := fun q kq z h => by
    cases q with
    | zero => simp [insT] at h; exact ⟨rfl, h.1.symm, h.2.symm⟩
    | succ q => simp [insT] at h
  cases h with
  | base h =>
    have h1 := view_ok hm h hu
    have h2 : AggOK C.P S w (insT []) [] u x := by
      have hl : ∀ k, lent false S bss k → S k := fun k h => h.resolve_right (by simp)
      cases x with
      | any => trivial
      | agg cs => obtain ⟨us, e, rl⟩ := h1; exact ⟨us, e, rl.mono fun u x h => RefOK.kept h (Kept.refl (fun _ => True) w) (fun _ _ _ => trivial) hl⟩
      | _ => simp only [AggOK] at h1 ⊢; exact RefOK.kept h1 (Kept.refl (fun _ => True) w) (fun _ _ _ => trivial) hl
    have hn : nrefA x = true := by
      cases h with
      | same h => exact h
      | nil => rfl
      | rof => rfl
    exact h2.nref hn fun _ h => h
  | ptr =>
    refine ⟨by simp [insT], hu.2.1, fun e es v2 sz h1 h2 h3 => ?_⟩
    obtain ⟨_, _, q⟩ := low _ _ _ h1
    have h2 : some v = some v2 := h2
    injection h2 with h2
    subst h2
    exact hu.2.2 e es v sz (by rw [hs, q]) hv h3
  | sl =>
    refine ⟨by simp [insT], hu.2.1, fun e es v2 sz h1 h2 h3 => ?_⟩
    obtain ⟨_, _, q⟩ := low _ _ _ h1
    have h2 : some v = some v2 := h2
    injection h2 with h2
    subst h2
    exact hu.2.2 e es v sz (by rw [hs, q]) hv h3
theorem op_call1 {f : FuncId} {args : Array Operand} {ts : Array TypeId} {r k : Nat} {x0 x1 : AV} {xs ys : List AV} (ho : o.op = .call { callee := .value (.func f), args := args, argTypes := ts }) (hf : Enters C.P f) (hsp : Fn C.P f [x0] xs ys [x1]) (hs : T.slots[r]? = some (k, x0)) (hv : RL (View1 T r k) (args.toList.map ev) xs)
    (hx1 : ∃ e es es', x0 = .own e es ∧ x1 = .own e es' ∧ es.length = es'.length) (hn : ys.all (cloA 1) = true) {x : AV} {T' : Sl} (hx : packR (unp (ys.map (renA r k)) ⟨T.slots.set r (k, x1), T.ep⟩).1 = x) (hT : (unp (ys.map (renA r k)) ⟨T.slots.set r (k, x1), T.ep⟩).2 = T') : OpJ C o ev T x T' := by
  intro a w S vals bss hm h K hK Q
  have hrl : r < T.slots.length := (List.getElem?_eq_some_iff.1 hs).1
  have hargs : ∀ y ∈ args, TmpOK C.P S w T vals (a.eval y) (ev y) := fun y hy => h y (by simp [ho, Op.operands, Call.operands]; exact .inr hy)
  obtain ⟨v, bs, hvr, hbr, hrep⟩ := hm.slot hs
  have hcame : Came C.P [x0] xs w S [v] [bs] (args.toList.map a.eval) := by
    refine ⟨hm.lt, rfl, rfl, fun q x u b h1 h2 h3 => ?_, ⟨fun q b h1 => ?_, fun q q' b b' hne h1 h2 => ?_⟩, fun b ⟨q, b1, h1, h2⟩ => ?_, by have := hv.1; simpa using this, fun i u x h1 h2 => ?_⟩
    · cases q with
      | zero => simp at h1 h2 h3; subst h1; subst h2; subst h3; exact hrep
      | succ q => simp at h1
    · cases q with
      | zero => simp at h1; subst h1; exact hm.nodup r _ hbr
      | succ q => simp at h1
    · cases q with
      | zero => cases q' with
        | zero => exact absurd rfl hne
        | succ q' => simp at h2
      | succ q => simp at h1
    · cases q with
      | zero => simp at h1; subst h1; exact hm.apart r _ hbr b h2
      | succ q => simp at h1
    · rw [List.getElem?_map] at h1
      cases hq : args.toList[i]? with
      | none => rw [hq] at h1; cases h1
      | some y =>
        rw [hq] at h1
        simp only [Option.map_some, Option.some.injEq] at h1
        subst h1
        exact view1_ok hm hs hvr (hv.2 i (ev y) x (by rw [List.getElem?_map, hq]; rfl) h2) (hargs y (Array.mem_toList_iff.1 (List.mem_of_getElem? hq)))
  have hc := hsp w S [v] [bs] _ hcame
  have hrun : (execOp a.eval o).run C.P w = .ok (.enter f (args.toList.map a.eval).toArray) w := by
    have e1 : (args.map a.eval) = (args.toList.map a.eval).toArray := by apply Array.toList_inj.1; simp
    simp only [execOp, ho, resolve, Act.eval, Deferred.ofValue, Sem.run_bind, Sem.run_pure, Result.andThen_ok, invoke]
    rw [← e1]
    simpa using hf _ w
  unfold Oper.wp
  rw [hrun, Oper.upon_enter]
  refine hc.mono ?_
  rintro e w' ⟨us, ys', outs, bsr, bss', rfl, went, rfl, rfl⟩
  simp only
  obtain ⟨bs', rfl⟩ : ∃ b, bss' = [b] := by
    match bss', went.nb with
    | [b], _ => exact ⟨b, rfl⟩
  have hin1 : ∀ (b : List Nat) (q : Nat), InL [b] q ↔ q ∈ b := fun b q => by
    constructor
    · rintro ⟨i, b1, h1, h2⟩
      cases i with
      | zero => simp at h1; subst h1; exact h2
      | succ i => simp at h1
    · intro h; exact ⟨0, b, rfl, h⟩
  have hk : Kept (fun q => q ∉ bs) w w' := went.kept.mono fun q _ h h' => h ((hin1 _ _).1 h')
  have hinR : ∀ q, InL bsr q → InL (bsr ++ [bs']) q := fun q ⟨i, b, h1, h2⟩ => ⟨i, b, by rw [List.getElem?_append_left (List.getElem?_eq_some_iff.1 h1).1]; exact h1, h2⟩
  have hinS : ∀ q, q ∈ bs' → InL (bsr ++ [bs']) q := fun q h => ⟨bsr.length, bs', by simp, h⟩
  have hown' := went.own
  have hownR : Own2 bsr := ⟨fun i b h => hown'.nodup i b (by rw [List.getElem?_append_left (List.getElem?_eq_some_iff.1 h).1]; exact h), fun i j b b' hne h1 h2 => hown'.disj i j b b' hne (by rw [List.getElem?_append_left (List.getElem?_eq_some_iff.1 h1).1]; exact h1) (by rw [List.getElem?_append_left (List.getElem?_eq_some_iff.1 h2).1]; exact h2)⟩
  have hmine : ∀ q, InL (bsr ++ [bs']) q → w.heap.size ≤ q ∨ q ∈ bs := fun q h => (went.mine q h).imp id (hin1 _ _).1
  obtain ⟨e0, es, es', rfl, rfl, hle⟩ := hx1
  obtain ⟨hm2, hf2⟩ := hm.set2 (S2 := After S w w' [bs] (bsr ++ [bs'])) (x' := .own e0 es') (bs' := bs') hs hvr hbr hk (fun q h => .inl h) (fun q h => h.imp id fun ⟨h1, h2, h3⟩ => ⟨h1.imp id (hin1 _ _).1, h2, fun h => h3 (hinS q h)⟩)
    (went.rep 0 _ v bs' rfl rfl rfl) (hown'.nodup bsr.length bs' (by simp)) (fun q h => (hmine q (hinS q h)).symm) (fun e es2 h => by injection h with h1 h2; subst h1; subst h2; exact ⟨es, rfl, hle⟩) (fun b ks h => by cases h)
  have hs2 : (T.slots.set r (k, AV.own e0 es'))[r]? = some (k, .own e0 es') := by simp [hrl]
  have hcl : ∀ (i : Nat) (y : AV), ys'[i]? = some y → cloA 1 y = true := fun i y h => List.all_eq_true.1 hn y (List.mem_of_getElem? h)
  obtain ⟨vals', bss'', g1, g2, g3⟩ := unp_ok2 (ys'.map (renA r k)) us bsr _ vals _ hm2 (by simp [went.nu]) (by simp [went.nr]) (fun i u y b q1 q2 q3 => by
    rw [List.getElem?_map] at q2
    cases hq : ys'[i]? with
    | none => rw [hq] at q2; cases q2
    | some y0 =>
      rw [hq] at q2
      simp only [Option.map_some, Option.some.injEq] at q2
      subst q2
      rcases went.res i u y0 b q1 hq q3 with h | ⟨h1, h2⟩
      · exact .inl (h.ren r k)
      · exact .inr ⟨h1, renA_ok (T' := ⟨T.slots.set r (k, .own e0 es'), T.ep⟩) hs2 hvr (hm.ver r k _ hs) h2 (hcl i y0 hq)⟩) hownR (fun q hq => by
      refine ⟨fun ⟨i, b, h1, h2⟩ => ?_, fun h => ?_, ?_⟩
      · rw [getElem?_set_ _ _ _ _ (by rw [hm.nb]; exact hrl)] at h1
        obtain ⟨j, bj, h3, h4⟩ := hq
        split at h1
        · injection h1 with h1; subst h1
          refine hown'.disj j bsr.length bj bs' ?_ (by rw [List.getElem?_append_left (List.getElem?_eq_some_iff.1 h3).1]; exact h3) (by simp) q h4 h2
          have := (List.getElem?_eq_some_iff.1 h3).1; omega
        · rename_i hne
          rcases hmine q (hinR q ⟨j, bj, h3, h4⟩) with h | h
          · have := hm.blt h1 q h2; omega
          · exact hm.disj r i bs b hne hbr h1 q h h2
      · rcases h with h | ⟨_, _, h⟩
        · rcases hmine q (hinR q hq) with h' | h'
          · have := hm.lt q h; omega
          · exact hm.apart r bs hbr q h' h
        · exact h (hinR q hq)
      · rcases hmine q (hinR q hq) with h | h
        · have := hm.kept.size; exact .inr (by omega)
        · exact hm.mine r bs hbr q h)
  subst hT
  refine hK _ _ _ _ _ g1 (fun u x h => g2 u x (hf2 u x h)) ?_
  subst hx
  match us, hz : (unp (ys'.map (renA r k)) ⟨T.slots.set r (k, .own e0 es'), T.ep⟩).1, g3 with
  | [], zs, rl =>
    have : zs = [] := List.eq_nil_of_length_eq_zero rl.1.symm
    subst this
    exact ⟨#[], rfl, RL.nil⟩
  | [u], zs, rl =>
    obtain ⟨z, rfl⟩ : ∃ z, zs = [z] := by
      match zs, rl.1 with
      | [z], _ => exact ⟨z, rfl⟩
    have := rl.2 0 u z rfl rfl
    cases z with
    | tup cs => exact absurd rfl (Rep.plain (show Rep _ _ _ _ _ (.tup cs) from this) cs).2
    | _ => exact this
  | u :: u2 :: us, zs, rl =>
    obtain ⟨z1, z2, zs', rfl⟩ : ∃ z1 z2 zs', zs = z1 :: z2 :: zs' := by
      match zs, rl.1 with
      | z1 :: z2 :: zs', _ => exact ⟨z1, z2, zs', rfl⟩
    exact ⟨_, rfl, by simpa using rl⟩
end
end Go.Proofs.Ytmihcabjoodogaa
namespace Go.Proofs.Ytmihcabjoodogaa
open Go.RowKit
set_option linter.unusedSimpArgs false
set_option linter.unusedVariables false
section
variable {P : Program} {ops : Array Oper} {md : Region.Mode} {D : World → Prop}
def wpAnyLQ (P : Program) (md : Region.Mode) (ops : Array Oper) (D : World → Prop) (n : Nat) (L : Array Bool → Act → Prop) : Nat → Array Bool → Act → Prop
  | 0, listed, a => L listed a
  | f + 1, listed, a =>
    Region.ready md ops listed ≠ [] ∧ ∀ i ∈ Region.ready md ops listed, i < n ∧ qOp P ops D i (wpAnyLQ P md ops D n L f (listed.setIfInBounds i true)) a
end
section
variable {C : Cx} {Q : Exit → Sta → Prop} {σ : Sta}
theorem AW.drawn {i n : Nat} {l : List Oper} (hm : C.P.follows .mixedOrders = true) (hn : l.toArray.size = n) (h : AWAny C l.toArray Q n (Array.replicate n false) σ) : AW C (.region i l.toArray true) Q σ := by
  subst hn
  exact AW.region_any hm h
end
section
variable {C : Cx} {Q : Exit → Sta → Prop} {ops : Array Oper} {fuel : Nat} {listed : Array Bool} {o : Oper} {env : Nat → AV} {T T' : Sl} {n : Nat} {x : AV}
/-- A quiet operation, in a region in order. -/
theorem OpQ.j {ev : Operand → AV} (h : OpQ C o ev T x) : OpJ C o ev T x T := by
  intro a w S vals bss hm ho K hK Q
  obtain ⟨v, h1, h2⟩ := h a w S vals bss hm ho
  have := h1 w (Kept.refl _ _)
  refine Oper.wp_of_quiet (C := fun w'' => Kept (fun _ => True) w w'') (K := fun a' => a' = a.put o.dst v) (Kept.refl _ _) ?_ ⟨v, fun w' hw' => h1 w' hw', rfl⟩
  rintro a' w' hk rfl
  exact hK v w' S vals bss (hm.grow hk) (Follows.kept hk (fun _ _ _ => trivial) fun _ h => h) (TmpOK.follows (Follows.kept hk (fun _ _ _ => trivial) fun _ h => h) h2)
end
end Go.Proofs.Ytmihcabjoodogaa
namespace Go.Proofs.Ytmihcabjoodogaa
open Go.RowKit
set_option linter.unusedSimpArgs false
set_option linter.unusedVariables false
theorem OpJ.congr {C : Cx} {o : Oper} {ev ev' : Operand → AV} {T T' : Sl} {x : AV} (h : OpJ C o ev T x T') (he : ∀ y ∈ o.op.operands, ev' y = ev y) : OpJ C o ev' T x T' :=
  fun a w S vals bss hm ho => h a w S vals bss hm fun y hy => by rw [← he y hy]; exact ho y hy
theorem evA_put {env : Nat → AV} {dst : Option Tmp} {x : AV} {o : Oper} {ops : Array Oper} (h : ∀ d, dst = some d → d ∉ o.looksAt ops) : ∀ y ∈ o.op.operands, evA (putE env dst x) y = evA env y := fun y hy => by
  cases y with
  | tmp t =>
    cases dst with
    | none => rfl
    | some d =>
      show upd env d x t = env t
      unfold upd
      rw [if_neg]
      intro e
      subst e
      exact h _ rfl (List.mem_append_left _ (List.mem_filterMap.2 ⟨.tmp t, by simpa using hy, rfl⟩))
  | _ => rfl
theorem putE_comm {env : Nat → AV} {d d' : Option Tmp} {x y : AV} (h : ∀ t, d = some t → d' ≠ some t) : putE (putE env d x) d' y = putE (putE env d' y) d x := by
  cases d with
  | none => rfl
  | some t =>
    cases d' with
    | none => rfl
    | some t' =>
      have hne : t ≠ t' := fun e => h t rfl (by rw [e])
      funext q
      show upd (upd env t x) t' y q = upd (upd env t' y) t x q
      unfold upd
      by_cases h1 : q = t'
      · rw [if_pos h1, if_neg (fun e => hne (e.symm.trans h1)), if_pos h1]
      · rw [if_neg h1, if_neg h1]
section
variable {C : Cx} {ops : Array Oper} {Q : Exit → Sta → Prop} {Ok : Sl → Prop}
/-- An operation that waits for all others. -/
def lastB (ops : Array Oper) (o : Oper) (i : Nat) : Bool := (List.range ops.size).all fun q => q == i || o.after.any fun e => Region.binds .any e && e.on == q
theorem lastB_on {o : Oper} {i q : Nat} (h : lastB ops o i = true) (hq : q < ops.size) (hne : q ≠ i) : ∃ e ∈ o.after, Region.binds .any e = true ∧ e.on = q := by
  unfold lastB at h
  have := List.all_eq_true.1 h q (List.mem_range.2 hq)
  simp only [Bool.or_eq_true, beq_iff_eq, Array.any_eq_true', Bool.and_eq_true] at this
  rcases this with h | ⟨e, he, h1, h2⟩
  · exact absurd h hne
  · exact ⟨e, he, h1, h2⟩
def AD (C : Cx) (ops : Array Oper) (Q : Exit → Sta → Prop) (Ok : Sl → Prop) : Nat → Array Bool → Sta → Prop
  | 0, listed, σ => Region.ready .any ops listed = [] ∧ Q .normal σ
  | f + 1, listed, σ => (Region.ready .any ops listed = [] → Q .normal σ) ∧ ∀ i ∈ Region.ready .any ops listed, ∃ o x T', ops[i]? = some o ∧ o.guard = none ∧ opsOk o σ.n = true ∧ OpJ C o (evA σ.env) σ.T x T' ∧ (Ok T' ∨ lastB ops o i = true) ∧ AD C ops Q Ok f (listed.setIfInBounds i true) ⟨putE σ.env o.dst x, T', σ.n⟩
theorem AD.any : ∀ (f : Nat) (listed : Array Bool) (σ : Sta), AD C ops Q Ok f listed σ → AWAny C ops Q f listed σ
  | 0, _, _, h => AWAny.done h.1 h.2
  | f + 1, listed, σ, h => by
    by_cases hr : Region.ready .any ops listed = []
    · exact AWAny.done hr (h.1 hr)
    · refine AWAny.all rfl hr fun i hi => ?_
      obtain ⟨o, x, T', h1, h2, h3, h4, _, h6⟩ := h.2 i hi
      exact AWOp.op h1 h2 h3 h4 (AD.any f _ _ h6)
theorem AD.first {i : Nat} {oi : Oper} {x : AV} {n : Nat} {ev0 : Operand → AV} (hi : ops[i]? = some oi) (hg : oi.guard = none) (hok : opsOk oi n = true) (hj : ∀ T', Ok T' → OpJ C oi ev0 T' x T') :
    ∀ (f : Nat) (listed : Array Bool) (env : Nat → AV) (T : Sl),
      (∀ j oj, ops[j]? = some oj → j ≠ i → listed.getD j true = false → (∀ e ∈ oj.after, Region.binds .any e = true → e.on ≠ i) → oi.apart ops oj = true) →
      i ∈ Region.ready .any ops listed → (∀ y ∈ oi.op.operands, evA env y = ev0 y) → Ok T →
      AD C ops Q Ok f (listed.setIfInBounds i true) ⟨putE env oi.dst x, T, n⟩ → AD C ops Q Ok (f + 1) listed ⟨env, T, n⟩ := by
  intro f
  induction f with
  | zero =>
    intro listed env T _ hr hev hT H
    refine ⟨fun h => (by rw [h] at hr; cases hr), fun j hjr => ?_⟩
    by_cases hji : j = i
    · subst hji; exact ⟨oi, x, T, hi, hg, hok, (hj T hT).congr hev, .inl hT, H⟩
    · have := ready_mono hjr hji
      rw [H.1] at this
      cases this
  | succ f ih =>
    intro listed env T hfree hr hev hT H
    have hun := (mem_ready.1 hr).1
    refine ⟨fun h => (by rw [h] at hr; cases hr), fun j hjr => ?_⟩
    by_cases hji : j = i
    · subst hji; exact ⟨oi, x, T, hi, hg, hok, (hj T hT).congr hev, .inl hT, H⟩
    · obtain ⟨oj, y, T', h1, h2, h3, h4, h5, h6⟩ := H.2 j (ready_mono hjr hji)
      obtain ⟨hjun, oj', hoj, hall⟩ := mem_ready.1 hjr
      have : oj' = oj := Option.some.inj (hoj.symm.trans h1)
      subst this
      have hnot : ∀ e ∈ oj'.after, Region.binds .any e = true → e.on ≠ i := fun e he hb heq => by
        have h1 := hall e he hb
        rw [heq, getD_both hun] at h1
        cases h1
      replace h5 : Ok T' := by
        rcases h5 with h5 | h5
        · exact h5
        · obtain ⟨e, he, hb, heq⟩ := lastB_on h5 (Array.getElem?_eq_some_iff.1 hi).1 (Ne.symm hji)
          exact absurd heq (hnot e he hb)
      obtain ⟨a1, a2, a3⟩ := Oper.apart_spec (hfree j oj' hoj hji hjun hnot)
      have hfree' : ∀ k ok, ops[k]? = some ok → k ≠ i → (listed.setIfInBounds j true).getD k true = false → (∀ e ∈ ok.after, Region.binds .any e = true → e.on ≠ i) → oi.apart ops ok = true := fun k ok hk hki hun hno => by
        refine hfree k ok hk hki ?_ hno
        by_cases hjk : j = k
        · subst hjk; exact hjun
        · rw [getD_set_ne true hjk] at hun; exact hun
      refine ⟨oj', y, T', h1, h2, h3, h4.congr fun q hq => (evA_put a1 q hq).symm, .inl h5, ?_⟩
      refine ih _ _ _ hfree' (ready_mono hr (Ne.symm hji)) (fun q hq => (evA_put a3 q hq).trans (hev q hq)) h5 ?_
      rw [Array.setIfInBounds_comm _ _ hji]
      rw [putE_comm (fun t ht ht' => a2 t ht ht')] at h6
      exact h6
/-- Slots that stay as they are. -/
def FixL : List (Nat × Nat × AV) → Sl → Prop
  | [], _ => True
  | p :: l, T => T.slots[p.1]? = some p.2 ∧ FixL l T
theorem AW.ad {σ : Sta} {i n : Nat} {l : List Oper} (fx : List (Nat × Nat × AV)) (hm : C.P.follows .mixedOrders = true) (hn : l.toArray.size = n) (h : AD C l.toArray Q (FixL fx) n (Array.replicate n false) σ) : AW C (.region i l.toArray true) Q σ := by
  subst hn
  exact AW.region_any hm (AD.any _ _ _ h)
end
section
variable {C : Cx} {Q : Exit → Sta → Prop} {ops : Array Oper} {fx : List (Nat × Nat × AV)} {fuel : Nat} {listed : Array Bool} {o : Oper} {env : Nat → AV} {T T' : Sl} {n : Nat} {x : AV}
theorem atL {ops : Array Oper} {i : Nat} {o : Oper} (h : ops.toList[i]? = some o) : ops[i]? = some o := by rw [← Array.getElem?_toList]; exact h
theorem adF (i : Nat) (hi : ops.toList[i]? = some o) (hj : ∀ T', FixL fx T' → OpJ C o (evA env) T' x T') (hT : FixL fx T) (hr : (Region.ready .any ops listed).contains i = true) (hf : Region.free .any ops listed i = true) (h : AD C ops Q (FixL fx) fuel (listed.setIfInBounds i true) ⟨putE env o.dst x, T, n⟩)
    (hg : o.guard = none := by rfl) (ho : opsOk o n = true := by rfl) : AD C ops Q (FixL fx) (fuel + 1) listed ⟨env, T, n⟩ :=
  AD.first (atL hi) hg ho hj fuel listed env T (Region.free_spec (atL hi) hf) (by simpa using hr) (fun _ _ => rfl) hT h
theorem adP (i : Nat) (hi : ops.toList[i]? = some o) (hj : ∀ T', FixL fx T' → OpP C o (evA env) T' x) (hT : FixL fx T) (hr : (Region.ready .any ops listed).contains i = true) (hf : Region.free .any ops listed i = true) (h : AD C ops Q (FixL fx) fuel (listed.setIfInBounds i true) ⟨putE env o.dst x, T, n⟩)
    (hg : o.guard = none := by rfl) (ho : opsOk o n = true := by rfl) : AD C ops Q (FixL fx) (fuel + 1) listed ⟨env, T, n⟩ := adF i hi (fun T' h => (hj T' h).j) hT hr hf h hg ho
theorem adR (i : Nat) (hi : ops.toList[i]? = some o) (hj : ∀ T', FixL fx T' → OpR C o (evA env) T' x) (hT : FixL fx T) (hr : (Region.ready .any ops listed).contains i = true) (hf : Region.free .any ops listed i = true) (h : AD C ops Q (FixL fx) fuel (listed.setIfInBounds i true) ⟨putE env o.dst x, T, n⟩)
    (hg : o.guard = none := by rfl) (ho : opsOk o n = true := by rfl) : AD C ops Q (FixL fx) (fuel + 1) listed ⟨env, T, n⟩ := adF i hi (fun T' h => (hj T' h).j) hT hr hf h hg ho
theorem adQ (i : Nat) (hi : ops.toList[i]? = some o) (hj : ∀ T', FixL fx T' → OpQ C o (evA env) T' x) (hT : FixL fx T) (hr : (Region.ready .any ops listed).contains i = true) (hf : Region.free .any ops listed i = true) (h : AD C ops Q (FixL fx) fuel (listed.setIfInBounds i true) ⟨putE env o.dst x, T, n⟩)
    (hg : o.guard = none := by rfl) (ho : opsOk o n = true := by rfl) : AD C ops Q (FixL fx) (fuel + 1) listed ⟨env, T, n⟩ := adF i hi (fun T' h => (hj T' h).j) hT hr hf h hg ho
/-- The only operation that may come up. -/
theorem adJ (i : Nat) (hi : ops.toList[i]? = some o) (hj : OpJ C o (evA env) T x T') (hr : Region.ready .any ops listed = [i]) (hT : FixL fx T') (h : AD C ops Q (FixL fx) fuel (listed.setIfInBounds i true) ⟨putE env o.dst x, T', n⟩) (hg : o.guard = none := by rfl) (ho : opsOk o n = true := by rfl) : AD C ops Q (FixL fx) (fuel + 1) listed ⟨env, T, n⟩ :=
  ⟨fun h0 => (by rw [hr] at h0; cases h0), fun j hj' => by
    rw [hr] at hj'
    obtain rfl : j = i := by simpa using hj'
    exact ⟨o, x, T', atL hi, hg, ho, hj, .inl hT, h⟩⟩
theorem adDone (hr : Region.ready .any ops listed = []) (h : Q .normal ⟨env, T, n⟩) : AD C ops Q (FixL fx) fuel listed ⟨env, T, n⟩ := by
  cases fuel with
  | zero => exact ⟨hr, h⟩
  | succ f => exact ⟨fun _ => h, fun i hi => by rw [hr] at hi; cases hi⟩
end
end Go.Proofs.Ytmihcabjoodogaa
namespace Go.Proofs.Ytmihcabjoodogaa
open Go.RowKit
set_option linter.unusedSimpArgs false
set_option linter.unusedVariables false
section
variable {C : Cx} {o : Oper} {ev : Operand → AV} {T : Sl} {t yt : TypeId} {p q : Operand} {k k' : IntKind} {x y z : Int}
theorem op_shr (ho : o.op = .binOp .shr t p q yt) (hp : ev p = .v (.int k x)) (hq : ev q = .v (.int k' y)) (h0 : 0 ≤ y) (hz : x.fdiv (2 ^ (min y.toNat k.bits)) = z) : OpP C o ev T (.v (.int k z)) :=
  op_bin ho hp hq (fun w => by unfold eqGuard; simp) (fun w => by simp [binOp, Op.shift, hz, show ¬ y < 0 by omega]) rfl
theorem op_and (ho : o.op = .binOp .and t p q yt) (hp : ev p = .v (.int k x)) (hq : ev q = .v (.int k y)) (hz : k.wrap ((BitVec.ofInt k.bits x &&& BitVec.ofInt k.bits y).toNat) = z) : OpP C o ev T (.v (.int k z)) :=
  op_bin ho hp hq (eqGuard_int _ _ _ _ _ _ _) (fun w => by simp only [binOp, Op.intBits, hz, ne_eq, not_true_eq_false, if_false]; rfl) rfl
end
end Go.Proofs.Ytmihcabjoodogaa
namespace Go.Proofs.Ytmihcabjoodogaa
open Go.RowKit
set_option linter.unusedSimpArgs false
set_option linter.unusedVariables false
inductive Le1 : AV → AV → Prop
  | same {x} : Le1 x x
  | nil : Le1 (.v (.slice none 0 0)) (.ro [])
theorem Le1.rep {P : Program} {S : Nat → Prop} {w : World} {bs : List Nat} {u : Value} {x y : AV} (h : Le1 x y) (hr : Rep P S w bs u x) : Rep P S w bs u y := by
  cases h with
  | same => exact hr
  | nil =>
    obtain ⟨rfl, rfl, _⟩ := hr.v_inv
    exact rep_ro_nil
section
variable {C : Cx} {σ : Sta}
theorem Gh.slot {e : TypeId} {es es' : List (List AV)} {r k : Nat} (hT : σ.T.slots[r]? = some (k, .own e es)) (hl : es'.map List.length = es.map List.length) (hle : RL Le1 es.flatten es'.flatten) : Gh C σ ⟨σ.env, ⟨σ.T.slots.set r (k, .own e es'), σ.T.ep⟩, σ.n⟩ := by
  intro a w ⟨hd, hn, S, vals, bss, hm, he⟩
  obtain ⟨v, bs, hv, hb, hrep⟩ := hm.slot hT
  have hlen : es'.length = es.length := by have := congrArg List.length hl; simpa using this
  have hrep' : Rep C.P S w bs v (.own e es') := by
    obtain ⟨us, sz, bss', rfl, hi, hsz, hown, hul, hbl, hc⟩ := hrep.own_inv
    refine .own hi (fun x hx => ?_) (by rw [hlen]; exact hown) (by rw [hul]; exact hle.1) hbl fun i u x b h1 h2 h3 => ?_
    · have h1 : x.length ∈ es'.map List.length := List.mem_map_of_mem hx
      rw [hl] at h1
      obtain ⟨y, hy, h2⟩ := List.mem_map.1 h1
      rw [← h2]; exact hsz y hy
    · have hlt : i < es.flatten.length := by rw [hle.1]; exact (List.getElem?_eq_some_iff.1 h2).1
      have h4 := List.getElem?_eq_getElem hlt
      exact (hle.2 i _ x h4 h2).rep (hc i u _ b h1 h4 h3)
  obtain ⟨hm', hf⟩ := hm.set hT hv hb (Kept.refl _ _) hrep' (hm.nodup r bs hb) (fun b h => .inl h) (.inl ⟨rfl, rfl, rfl, fun e' es2 h => (by injection h with h1 h2; subst h1; subst h2; exact ⟨es, rfl, hlen.symm⟩), fun b ks h => (by cases h)⟩)
  exact ⟨hd, hn, S, _, _, hm', fun t ht => TmpOK.follows hf (he t ht)⟩
theorem Gh.tmp {cs cs' : List AV} (t : Nat) (ht : t < σ.n) (hv : σ.env t = .agg cs) (hle : RL Le1 cs cs') : Gh C σ ⟨upd σ.env t (.agg cs'), σ.T, σ.n⟩ := by
  intro a w ⟨hd, hn, S, vals, bss, hm, he⟩
  refine ⟨hd, hn, S, vals, bss, hm, fun q hq => ?_⟩
  show TmpOK _ _ _ _ _ _ (upd σ.env t _ q)
  unfold upd
  by_cases h : q = t
  · subst h
    rw [if_pos rfl]
    have h1 := he q hq
    rw [hv] at h1
    obtain ⟨us, e, rl⟩ := h1
    refine ⟨us, e, rl.1.trans hle.1, fun i u x hu hx => ?_⟩
    have hlt : i < cs.length := by rw [hle.1]; exact (List.getElem?_eq_some_iff.1 hx).1
    have h4 := List.getElem?_eq_getElem hlt
    have h5 := rl.2 i u _ hu h4
    have h6 := hle.2 i _ x h4 hx
    generalize cs[i] = y at h5 h6
    cases h6 with
    | same => exact h5
    | nil => exact Le1.rep .nil (show Rep C.P S w [] u _ from h5)
  · rw [if_neg h]; exact he q hq
end
end Go.Proofs.Ytmihcabjoodogaa
namespace Go.Proofs.Ytmihcabjoodogaa
open Go.RowKit
set_option linter.unusedSimpArgs false
set_option linter.unusedVariables false
/-- Where the fields of a struct lie, and how long they are. -/
def plIs (P : Program) (t : TypeId) (pl : List (Nat × Nat)) : Prop := ∃ fs, P.underlying t = some (.struct fs) ∧ fs.toList.mapM (fun f => (P.info? f.type).map fun i => (f.offset, i.size)) = some pl
theorem op_build2 {C : Cx} {o : Oper} {ev : Operand → AV} {T : Sl} {t : TypeId} {n b : Nat} {z : Value} {ps : Array (Nat × Operand)} {pl : List (Nat × Nat)} (ho : o.op = .build t ps) (hpl : plIs C.P t pl) (hz : zeroIs C.P t z n b) (rows : List (Nat × List AV))
    (hp : ps.toList.map (fun p => (p.1, rowR (ev p.2))) = rows.map (fun p => (p.1, some p.2))) (hr : rows.all (fun p => match pl[p.1]? with | some (off, sz) => p.2.length == sz && off + sz ≤ n | none => false) = true) {xs : List AV} (hx : rows.foldl (fun cs p => splice cs ((pl[p.1]?).getD (0, 0)).1 p.2) (z.cells.toList.map .v) = xs) :
    OpP C o ev T (.agg xs) := by
  obtain ⟨fs, h1, h2⟩ := hpl
  exact op_build ho rows h1 h2 hz hp hr hx
end Go.Proofs.Ytmihcabjoodogaa
namespace Go.Proofs.Ytmihcabjoodogaa
open Go.RowKit
set_option linter.unusedSimpArgs false
set_option linter.unusedVariables false
section
variable {C : Cx} {Q : Exit → Sta → Prop} {K : Sta → Prop} {ops : Array Oper} {o : Oper} {l : List Oper} {env : Nat → AV} {T T' : Sl} {n : Nat} {x : AV}
def skipB (ops : Array Oper) (g : Nat) (b : Bool) (c : Nat) (W : List Nat) : List Nat → List Oper → Bool
  | _, [] => true
  | dead, o :: l => (o.guard == some (g, b) || (match o.guard with | some (g2, _) => (match (ops[g2]?).bind (·.dst) with | some d2 => dead.contains d2 | none => false) | none => false)) && (match o.dst with | some t => W.contains t && t != c | none => true) && skipB ops g b c W (o.dst.toList ++ dead) l
end
end Go.Proofs.Ytmihcabjoodogaa
namespace Go.Proofs.Ytmihcabjoodogaa
open Go.RowKit
set_option linter.unusedSimpArgs false
set_option linter.unusedVariables false
def FnB (P : Program) (f : FuncId) (xs : List AV) (e : TypeId) (row : List AV) : Prop :=
  ∀ (w : World) (S : Nat → Prop) (vs : List Value), Came P [] xs w S [] [] vs → Calls P f vs.toArray w fun en w' => ∃ g n cap bs, en = .returned (.pointer (some ⟨g, 0, none⟩)) ∧ Kept (fun _ => True) w w' ∧ bs.Nodup ∧ (∀ b ∈ bs, w.heap.size ≤ b) ∧
    Rep P (fun k => S k ∨ (w.heap.size ≤ k ∧ k < w'.heap.size ∧ k ∉ bs)) w' bs (.slice (some ⟨g, 0, none⟩) n cap) (.own e [row])
def RQB (fn : Func) (e : TypeId) (row : List AV) : Exit → Sta → Prop
  | .normal, σ | .ret, σ => ∃ t r k, fn.results.toList = [.tmp t] ∧ t < σ.n ∧ σ.env t = .ptr r k 0 0 ∧ σ.T.slots[r]? = some (k, .own e [row])
  | _, _ => False
theorem FnB.body {P : Program} {f : FuncId} {fn : Func} {c : Code} {xs : List AV} {e : TypeId} {row : List AV} {n sz : Nat} (hf : P.funcs[f]? = some fn) (hb : fn.body = some c) (hnn : fn.ntmps = n) (hn : xs.length ≤ n) (hsz : sizeIs P e sz)
    (h : ∀ S0 own0 v0 w0, AW ⟨P, S0, own0, v0, w0⟩ c (RQB fn e row) ⟨fun t => xs.getD t .any, ⟨[], 1⟩, n⟩) : FnB P f xs e row := by
  subst hnn
  intro w S vs came
  refine calls_of_wp hf hb ?_
  have hvl : vs.length = xs.length := came.args.1
  have hszz : (vs.toArray ++ Array.replicate (fn.ntmps - vs.toArray.size) undef).size = fn.ntmps := by simp; omega
  have hmem : Mem ⟨P, S, [], [], w⟩ ⟨[], 1⟩ S [] [] w :=
    ⟨Kept.refl _ _, fun _ h => h, fun _ h => .inl h, came.lt, rfl, rfl, fun r k x v bs q1 => by simp at q1, fun r bs q => by simp at q, fun r r' bs bs' _ q => by simp at q, fun r bs q => by simp at q, fun r bs q => by simp at q, fun r x q => by simp at q, fun r k x q => by simp at q, by simp⟩
  refine wp_mono (h S [] [] w { tmps := vs.toArray ++ Array.replicate (fn.ntmps - vs.toArray.size) undef, defers := [] } w ⟨rfl, hszz, S, [], [], hmem, fun t ht => ?_⟩) ?_
  · by_cases hlt : t < xs.length
    · have hx := List.getElem?_eq_getElem hlt
      obtain ⟨u, hu, hr⟩ := came.args.at_ hx
      have e1 : (vs.toArray ++ Array.replicate (fn.ntmps - vs.toArray.size) undef).getD t undef = u := by
        have hu' : vs.toArray[t]? = some u := by simpa using hu
        rw [Array.getD_eq_getD_getElem?, Array.getElem?_append_left (by simp; omega), hu']
        rfl
      show TmpOK P S w _ _ ((vs.toArray ++ Array.replicate (fn.ntmps - vs.toArray.size) undef).getD t undef) (xs.getD t .any)
      rw [e1, List.getD_eq_getElem?_getD, hx]
      exact hr.tmp
    · show TmpOK P S w _ _ ((vs.toArray ++ Array.replicate (fn.ntmps - vs.toArray.size) undef).getD t undef) (xs.getD t .any)
      rw [List.getD_eq_getElem?_getD, List.getElem?_eq_none (by omega)]
      trivial
  · intro en a w' hq
    obtain ⟨σ, ⟨hd, hn', Sf, valsf, bssf, hm, he⟩, hrq⟩ := hq
    have main : (∃ t r k, fn.results.toList = [.tmp t] ∧ t < σ.n ∧ σ.env t = .ptr r k 0 0 ∧ σ.T.slots[r]? = some (k, .own e [row])) → a.defers = [] ∧ ∃ v, (results fn a.tmps).run P w' = .ok v w' ∧ ∃ g n cap bs, Ending.returned v = .returned (.pointer (some ⟨g, 0, none⟩)) ∧ Kept (fun _ => True) w w' ∧ bs.Nodup ∧ (∀ b ∈ bs, w.heap.size ≤ b) ∧
        Rep P (fun k => S k ∨ (w.heap.size ≤ k ∧ k < w'.heap.size ∧ k ∉ bs)) w' bs (.slice (some ⟨g, 0, none⟩) n cap) (.own e [row]) := by
      rintro ⟨t, r, k, h1, h2, h3, h4⟩
      have hp := he t h2
      rw [h3] at hp
      obtain ⟨v, bs, hv, hb', hrep⟩ := hm.slot h4
      obtain ⟨_, g, n, cap, rfl, hu⟩ := hp.2.2 e [row] v sz h4 hv hsz
      have hu0 : a.tmps.getD t undef = .pointer (some ⟨g, 0, none⟩) := by rw [hu]; simp
      refine ⟨hd, _, retV_run (us := [a.tmps.getD t undef]) (by rw [h1]; exact mapM_run rfl (by simp)), g, n, cap, bs, by rw [retV, hu0], hm.kept.mono (fun k _ _ h => (by cases h)), hm.nodup r bs hb', fun b hb2 => ?_, hrep.mono fun k _ hk => ?_⟩
      · rcases hm.mine r bs hb' b hb2 with h | h
        · cases h
        · exact h
      · rcases hm.sub k hk with h | h | h
        · exact .inl h
        · cases h
        · exact .inr ⟨h, hm.lt k hk, fun h' => hm.apart r bs hb' k h' hk⟩
    cases en with
    | normal => exact main hrq
    | ret => exact main hrq
    | exit i => exact hrq.elim
    | goto l => exact hrq.elim
    | panic c => exact hrq.elim
    | outgrown => exact hrq.elim
section
variable {C : Cx} {T : Sl} {o : Oper} {ev : Operand → AV}
theorem op_callB {f : FuncId} {args : Array Operand} {ts : Array TypeId} {xs : List AV} {e : TypeId} {row : List AV} (ho : o.op = .call { callee := .value (.func f), args := args, argTypes := ts }) (hf : Enters C.P f) (hsp : FnB C.P f xs e row) (hv : RL (View T false) (args.toList.map ev) xs) :
    OpJ C o ev T (.ptr T.slots.length T.ep 0 0) (pushT T (.own e [row])) := by
  intro a w S vals bss hm h K hK Q
  have hargs : ∀ y ∈ args, TmpOK C.P S w T vals (a.eval y) (ev y) := fun y hy => h y (by simp [ho, Op.operands, Call.operands]; exact .inr hy)
  have hc := hsp w (lent false S bss) _ (came0 hm hv hargs)
  have hrun : (execOp a.eval o).run C.P w = .ok (.enter f (args.toList.map a.eval).toArray) w := by
    have e1 : (args.map a.eval) = (args.toList.map a.eval).toArray := by apply Array.toList_inj.1; simp
    simp only [execOp, ho, resolve, Act.eval, Deferred.ofValue, Sem.run_bind, Sem.run_pure, Result.andThen_ok, invoke]
    rw [← e1]
    simpa using hf _ w
  unfold Oper.wp
  rw [hrun, Oper.upon_enter]
  refine hc.mono ?_
  rintro en w' ⟨g, n, cap, bs, rfl, hk, hnd, hge, hrep⟩
  simp only
  have hS2 : ∀ k, S k → S k ∨ (w.heap.size ≤ k ∧ k < w'.heap.size ∧ k ∉ bs) := fun k h => .inl h
  have hm1 := (hm.grow hk).more (S' := fun k => S k ∨ (w.heap.size ≤ k ∧ k < w'.heap.size ∧ k ∉ bs)) hS2 fun k h => by
    rcases h with h | ⟨h1, h2, h3⟩
    · exact .inl h
    · refine .inr ⟨.inr (.inr (by have := hm.kept.size; omega)), h2, fun ⟨r, bs, q1, q2⟩ => ?_⟩
      have := hm.blt q1 k q2; omega
  have hf1 : Follows C.P S w T vals (fun k => S k ∨ (w.heap.size ≤ k ∧ k < w'.heap.size ∧ k ∉ bs)) w' T vals := Follows.kept hk (fun _ _ _ => trivial) hS2
  obtain ⟨hm2, hf2⟩ := hm1.push2 (hrep.mono fun k _ h => h.imp (fun h => h.resolve_right (by simp)) id) hnd fun b hb => by
    have hge := hge b hb
    refine ⟨fun ⟨r, bs, q1, q2⟩ => by have := hm.blt q1 b q2; omega, fun h => ?_, .inr (by have := hm.kept.size; omega)⟩
    rcases h with h | h
    · have := hm.lt b h; omega
    · exact h.2.2 hb
  refine hK _ _ _ _ _ hm2 (fun u x h => hf2 u x (hf1 u x h)) ?_
  refine ⟨by simp [pushT], rfl, fun e' es v sz h1 h2 h3 => ?_⟩
  have h1 : (T.slots ++ [(T.ep, AV.own e [row])])[T.slots.length]? = some (T.ep, .own e' es) := h1
  rw [getElem?_snoc, if_neg (by omega), if_pos rfl] at h1
  rw [getElem?_snoc, hm.nv, if_neg (by omega), if_pos rfl] at h2
  injection h1 with h1; injection h1 with _ h1; injection h1 with h1 h4
  injection h2 with h2
  subst h4; subst h2
  exact ⟨by simp, g, n, cap, rfl, by simp⟩
end
theorem Fn.top {P : Program} {f : FuncId} {xs : List AV} (h : Fn P f [] xs [.v (.bool true)] []) (w : World) (vs : List Value) (hargs : RL (AggOK P (fun k => k < w.heap.size) w (insT []) []) vs xs) : Calls P f vs.toArray w fun e w' => e = .returned (.bool true) ∧ Below w.heap.size w w' := by
  refine (h w (fun k => k < w.heap.size) [] [] vs ⟨fun _ h => h, rfl, rfl, by simp, ⟨by simp, by simp⟩, fun b ⟨r, bs, q, _⟩ => by simp at q, hargs⟩).mono ?_
  rintro e w' ⟨us, ys, outs, bsr, bss', rfl, went, rfl, rfl⟩
  have hk : Kept (fun _ => True) w w' := went.kept.mono fun k _ _ ⟨r, bs, h, _⟩ => by simp at h
  refine ⟨?_, hk.below⟩
  match us, went.nu with
  | [u], _ =>
    have hr := went.res 0 u (.v (.bool true)) (bsr[0]'(by rw [went.nr]; simp)) rfl rfl (List.getElem?_eq_getElem _)
    rcases hr with h | ⟨_, h⟩
    · rw [retV, h.v_inv.1]
    · rw [retV, (show Rep P _ w' [] u (.v (.bool true)) from h).v_inv.1]
end Go.Proofs.Ytmihcabjoodogaa
namespace Go.Proofs.Ytmihcabjoodogaa
open Go.RowKit
set_option linter.unusedSimpArgs false
set_option linter.unusedVariables false
def notOwn : AV → Bool
  | .own _ _ => false
  | _ => true
theorem unp_id : ∀ (ys : List AV) (T : Sl), ys.all notOwn = true → unp ys T = (ys, T)
  | [], T, _ => rfl
  | y :: ys, T, h => by
    rw [List.all_cons, Bool.and_eq_true] at h
    have e : unp (y :: ys) T = (y :: (unp ys T).1, (unp ys T).2) := by
      cases y <;> first | rfl | cases h.1
    rw [e, unp_id ys T h.2]
/-- A call that leaves the slots as they are. -/
theorem op_callS {C : Cx} {o : Oper} {ev : Operand → AV} {T : Sl} {f : FuncId} {args : Array Operand} {ts : Array TypeId} {xs ys : List AV} (ho : o.op = .call { callee := .value (.func f), args := args, argTypes := ts }) (hf : Enters C.P f) (hsp : Fn C.P f [] xs ys []) (hv : RL (View T false) (args.toList.map ev) xs)
    (hn : ys.all nrefA = true) (hno : ys.all notOwn = true) {x : AV} (hx : packR ys = x) : OpJ C o ev T x T :=
  op_call (b := false) ho hf hsp hv hn (fun h => by cases h) (by rw [unp_id ys T hno]; exact hx) (by rw [unp_id ys T hno])
end Go.Proofs.Ytmihcabjoodogaa
namespace Go.Proofs.Ytmihcabjoodogaa
open Go.RowKit
set_option linter.unusedSimpArgs false
set_option linter.unusedVariables false
theorem lcS : (∀ x, ldc (.v x) = .v x) ∧ (∀ x, ldc (.ro x) = .ro x) ∧ (∀ x, ldc (.rof x) = .rof x) ∧ (∀ x, ldc (.rop x) = .rop x) ∧ (∀ e x, ldc (.own e x) = .sln x.length) ∧ (∀ n, ldc (.sln n) = .sln n) ∧ ldc .any = .any ∧
    (∀ x, stc (.v x) = .v x) ∧ (∀ x, stc (.ro x) = .ro x) ∧ (∀ x, stc (.rof x) = .rof x) ∧ (∀ x, stc (.rop x) = .rop x) ∧ (∀ n, stc (.sln n) = .sln n) ∧ stc .any = .any ∧ (∀ a b c d, stc (.sl a b c d) = .any) ∧ (∀ a b c d, stc (.ptr a b c d) = .any) :=
  ⟨fun _ => rfl, fun _ => rfl, fun _ => rfl, fun _ => rfl, fun _ _ => rfl, fun _ => rfl, rfl, fun _ => rfl, fun _ => rfl, fun _ => rfl, fun _ => rfl, fun _ => rfl, rfl, fun _ _ _ _ => rfl, fun _ _ _ _ => rfl⟩
theorem evS : (∀ (env : Nat → AV) t, evA env (.tmp t) = env t) ∧ (∀ (env : Nat → AV) k n, evA env (.const (.int k n)) = .v (.int k n)) ∧ (∀ (env : Nat → AV) b, evA env (.const (.bool b)) = .v (.bool b)) ∧ (∀ (env : Nat → AV) s, evA env (.const (.string s)) = .v (.string s)) ∧
    (∀ (env : Nat → AV) a n c, evA env (.const (.slice a n c)) = .v (.slice a n c)) ∧ (∀ (env : Nat → AV) f, evA env (.func f) = .v (.func (.func f) #[] #[])) ∧ (∀ (env : Nat → AV) d x, putE env (some d) x = upd env d x) ∧ (∀ (env : Nat → AV) x, putE env none x = env) :=
  ⟨fun _ _ => rfl, fun _ _ _ => rfl, fun _ _ => rfl, fun _ _ => rfl, fun _ _ _ _ => rfl, fun _ _ => rfl, fun _ _ _ => rfl, fun _ _ => rfl⟩
end Go.Proofs.Ytmihcabjoodogaa
namespace Go.Proofs.Ytmihcabjoodogaa
open Go.RowKit
set_option linter.unusedSimpArgs false
set_option linter.unusedVariables false
section
variable {C : Cx} {o : Oper} {ev : Operand → AV} {T : Sl}
end
end Go.Proofs.Ytmihcabjoodogaa
namespace Go.Proofs.Ytmihcabjoodogaa
open Go.RowKit
set_option linter.unusedSimpArgs false
set_option linter.unusedVariables false
theorem run_app_none_ {P : Program} (w : World) (t ty e : TypeId) {sz : Nat} (ht : P.underlying t = some (.slice e)) (hs : sizeIs P e sz) (A A' : Option Addr) (n c c' : Nat) (h : n ≤ c) : (Builtin.append_ #[t, t] ty #[.slice A n c, .slice A' 0 c']).run P w = .ok (.slice A n c) w := by
  have hf : (Builtin.firstCells sz 0 (.slice A' 0 c')).run P w = .ok #[] w := by
    cases A' with
    | none => exact run_firstCells_none w _ _ _ _
    | some a => exact run_firstCells_some w sz 0 a 0 c' [] (by simp) (by simp)
  have h1 := run_sizeOf hs w
  cases A <;> simp [Builtin.append_, run_underlying ht, h1, Builtin.lenOf, h, hf, storeCells]
section
variable {C : Cx} {o : Oper} {ev : Operand → AV} {T : Sl}
/-- append onto a full slice that is only read. -/
theorem op_app_rof {t e : TypeId} {y s : Operand} {z : Value} {sz b : Nat} {es rows : List (List AV)} {sv : AV} (ho : o.op = .call { callee := .builtin .append, args := #[y, s], argTypes := #[t, t] }) (hy : ev y = .rof es) (hs : ev s = sv) (hsrc : Src T sv rows)
    (ht : C.P.underlying t = some (.slice e)) (hz : zeroIs C.P e z sz b) (h0 : 0 < sz) (hes : ∀ x ∈ es, x.length = sz) (hsz : ∀ x ∈ rows, x.length = sz) (hb : (es.length + rows.length) * b ≤ 140737488355328) (hb0 : 0 < b) {es' : List (List AV)} (he : es ++ rows = es') :
    OpJ C o ev T (.ro es') T := by
  subst he
  intro a w S vals bss hm h K hK Q
  have h1 := h y (by simp [ho, Op.operands, Call.operands])
  have h2 := h s (by simp [ho, Op.operands, Call.operands])
  rw [hy] at h1
  rw [hs] at h2
  obtain ⟨A, c, us, sz', e1, h3, h4, h5, h6, h7⟩ := src_cells hm hsrc h2
  obtain ⟨-, A0, sz0, us0, e2, g2, g3, g4, g5, g6⟩ := (show Rep C.P S w [] (a.eval y) (.rof es) from h1).rof_inv
  have hmax : es.length + rows.length ≤ maxLen := by
    have := Nat.le_mul_of_pos_right (es.length + rows.length) hb0
    unfold maxLen
    omega
  have hfe := flat_len hes
  have hfr := flat_len hsz
  by_cases hn : rows = []
  · subst hn
    have hrun := run_app_none_ (P := C.P) w t o.type e ht hz.size A0 A es.length es.length c (Nat.le_refl _)
    unfold Oper.wp execOp
    simp only [ho, resolve, invoke, builtin, Sem.run_bind, Sem.run_pure, Result.andThen_ok, List.map_toArray, List.map_cons, List.map_nil, e2, e1, List.length_nil, hrun]
    rw [List.append_nil] at hK
    refine hK _ w S vals bss hm Follows.refl ?_
    have := Rep.ro_of_rof (show Rep C.P S w [] (a.eval y) (.rof es) from h1)
    rw [e2] at this
    exact this
  have hrp : 0 < rows.length := by
    rcases Nat.eq_zero_or_pos rows.length with h | h
    · exact absurd (List.eq_nil_of_length_eq_zero h) hn
    · exact h
  have husl : us.length = rows.length * sz := by rw [h6.1, hfr]
  have hus0 : us0.length = es.length * sz := by rw [g5, hfe]
  obtain ⟨g, oo, rfl, hcell⟩ := h7 (by rw [husl]; exact Nat.mul_pos hrp h0)
  obtain ⟨hzi, hz2, hz3⟩ := id hz
  obtain ⟨i, hii, hz0, hz1, hz4⟩ := info_parts hzi
  have key : ∃ v' w', (Builtin.append_ #[t, t] o.type #[.slice A0 es.length es.length, .slice (some ⟨g, oo, none⟩) rows.length c]).run C.P w = .ok v' w' ∧ w'.ownsRow w.heap.size e sz v' (es.length + rows.length) (us0 ++ us) ∧ Kept (fun _ => True) w w' := by
    cases A0 with
    | some b0 =>
      obtain ⟨v', w', hrun, ho', hg⟩ := run_append_arg_grows (P := C.P) w t o.type e i z sz b ht hii hz0 hz1 hz4 hz2 h0 b0 es.length es.length us0 hus0 (fun j u hu => by
        obtain ⟨g1, o1, h, _, hc⟩ := g4 (by have := (List.getElem?_eq_some_iff.1 hu).1; omega)
        injection h with h
        subst h
        rw [add_off]
        exact hc j u hu) ⟨g, oo, none⟩ rows.length c us husl (fun j u hu => by rw [add_off]; exact hcell j u hu) (by omega) hmax hb
      exact ⟨v', w', hrun, ho', (Kept.refl _ _).grown hg (by simp)⟩
    | none =>
      have hu0 : us0 = [] := by
        rcases Nat.eq_zero_or_pos us0.length with h | h
        · exact List.eq_nil_of_length_eq_zero h
        · obtain ⟨_, _, h, _⟩ := g4 h; cases h
      have hl0 : es.length = 0 := by
        subst hu0
        rcases Nat.eq_zero_or_pos es.length with h | h
        · exact h
        · have := Nat.mul_pos h h0; simp at hus0; omega
      subst hu0
      obtain ⟨v', w', hrun, ho', hg, -, -⟩ := run_append_own_at (P := C.P) w w.heap.size t o.type e i z sz b ht hii hz0 hz1 hz4 hz2 h0 (.slice none 0 0) 0 [] ⟨by simp, .inl ⟨rfl, rfl⟩⟩ ⟨g, oo, none⟩ rows.length c us husl (fun j u hu => by rw [add_off]; exact hcell j u hu)
        (fun u hu => by
          obtain ⟨q, hq, rfl⟩ := List.getElem_of_mem hu
          exact (h6.2 q _ (rows.flatten[q]'(by rw [← h6.1]; exact hq)) (List.getElem?_eq_getElem _) (List.getElem?_eq_getElem _)).one) (by omega) (by rw [hl0] at hb; exact hb) (Nat.le_refl _)
      rw [hl0]
      exact ⟨v', w', hrun, ho', (Kept.refl _ _).grown hg fun k hk => by simp [Value.ownBlock] at hk⟩
  obtain ⟨v', w', hrun, hown, hk⟩ := key
  unfold Oper.wp execOp
  simp only [ho, resolve, invoke, builtin, Sem.run_bind, Sem.run_pure, Result.andThen_ok, List.map_toArray, List.map_cons, List.map_nil, e2, e1, hrun]
  have hS2 : ∀ k, S k → S k ∨ (w.heap.size ≤ k ∧ k < w'.heap.size) := fun k h => .inl h
  have hm1 := (hm.grow hk).more (S' := fun k => S k ∨ (w.heap.size ≤ k ∧ k < w'.heap.size)) hS2 fun k h => by
    rcases h with h | ⟨h1, h2⟩
    · exact .inl h
    · refine .inr ⟨.inr (.inr (by have := hm.kept.size; omega)), h2, fun ⟨r, bs, q1, q2⟩ => ?_⟩
      have := hm.blt q1 k q2; omega
  have hf1 : Follows C.P S w T vals (fun k => S k ∨ (w.heap.size ≤ k ∧ k < w'.heap.size)) w' T vals := Follows.kept hk (fun _ _ _ => trivial) hS2
  refine hK v' w' _ vals bss hm1 hf1 ?_
  have hup : ∀ {u : Value} {x : AV}, Rep C.P S w [] u x → Rep C.P (fun k => S k ∨ (w.heap.size ≤ k ∧ k < w'.heap.size)) w' [] u x := fun h => (h.kept hk (fun _ _ _ => trivial) (by simp)).mono fun k _ => hS2 k
  show Rep C.P _ w' [] v' (.ro (es ++ rows))
  have hcs : RL (Rep C.P (fun k => S k ∨ (w.heap.size ≤ k ∧ k < w'.heap.size)) w' []) (us0 ++ us) (es ++ rows).flatten := by
    rw [List.flatten_append]
    exact RL.append ⟨g5, fun q u x q1 q2 => hup (g6 q u x q1 q2)⟩ (h6.mono fun u x => hup)
  rcases hown.2 with ⟨rfl, h9⟩ | ⟨g1, cap, cur, hv, q1, q2, q3, q4, q5⟩
  · exfalso; omega
  · have hcells := hown.cells (g := g1) (by rw [hv]; rfl)
    have hlt := hown.lt g1 (by rw [hv]; rfl)
    rw [hv]
    have e3 : es.length + rows.length = (es ++ rows).length := by rw [List.length_append]
    rw [e3]
    refine Rep.ro (us := us0 ++ us) (sz := sz) (by rw [← e3]; exact q3) q4 (fun x hx => ?_) (fun _ => ⟨g1, 0, rfl, .inr ⟨hlt.1, hlt.2⟩, fun j u hu => by have := hcells j u hu; simpa [add_off] using this⟩) hcs.1 hcs.2
    rcases List.mem_append.1 hx with hx | hx
    · exact hes x hx
    · exact hsz x hx
end
end Go.Proofs.Ytmihcabjoodogaa
namespace Go.Proofs.Ytmihcabjoodogaa
open Go.RowKit
set_option linter.unusedSimpArgs false
set_option linter.unusedVariables false
/-- The rewriting that every step of a walk ends with (all but the simprocs). -/
theorem nzL : (∀ (a b : Nat) (l : List Nat), (a :: l).contains b = (b == a || l.contains b)) ∧ (∀ a : Nat, ([] : List Nat).contains a = false) ∧
    (∀ b, (b || false) = b) ∧ (∀ b, (false || b) = b) ∧ (∀ b, (true || b) = true) ∧ (∀ b, (b || true) = true) ∧ ((false = true) = False) ∧
    (∀ (α : Type) (x d : α) (l : List α), (x :: l).getD 0 d = x) ∧ (∀ (α : Type) (x d : α) (l : List α) n, (x :: l).getD (n + 1) d = l.getD n d) ∧ (∀ (α : Type) (d : α) n, ([] : List α).getD n d = d) ∧
    (∀ (α β : Type) (f : α → β) x l, (x :: l).map f = f x :: l.map f) ∧ (∀ (α β : Type) (f : α → β), [].map f = []) ∧
    (∀ (α : Type) (l : List α), [] ++ l = l) ∧ (∀ (α : Type) (x : α) (l m : List α), (x :: l) ++ m = x :: (l ++ m)) ∧ (∀ (α : Type) (l : List α), l ++ [] = l) ∧
    (∀ (α : Type) (x : α) (l : List α), (x :: l).length = l.length + 1) ∧ (∀ (α : Type), ([] : List α).length = 0) ∧ (∀ (α β : Type) (f : α → β) (l : List α), (l.map f).length = l.length) ∧ (∀ n : Nat, 0 + n = n) ∧
    (∀ (α : Type) (x y : α) (l : List α), (x :: l).set 0 y = y :: l) ∧ (∀ (α : Type) (x y : α) (l : List α) n, (x :: l).set (n + 1) y = x :: l.set n y) ∧
    (∀ (α : Type) (x : α) (l : List α) n, (x :: l).take (n + 1) = x :: l.take n) ∧ (∀ (α : Type) (l : List α), l.take 0 = []) ∧ (∀ (α : Type) n, ([] : List α).take n = []) ∧
    (∀ (α : Type) (x : α) (l : List α) n, (x :: l).drop (n + 1) = l.drop n) ∧ (∀ (α : Type) (l : List α), l.drop 0 = l) ∧ (∀ (α : Type) n, ([] : List α).drop n = []) :=
  ⟨fun _ _ _ => List.contains_cons, fun _ => List.contains_nil, Bool.or_false, Bool.false_or, Bool.true_or, Bool.or_true, Bool.false_eq_true,
    fun _ _ _ _ => rfl, fun _ _ _ _ _ => rfl, fun _ _ _ => rfl, fun _ _ _ _ _ => rfl, fun _ _ _ => rfl, fun _ _ => rfl, fun _ _ _ _ => rfl, fun _ _ => List.append_nil _,
    fun _ _ _ => rfl, fun _ => rfl, fun _ _ _ _ => List.length_map _, Nat.zero_add, fun _ _ _ _ => rfl, fun _ _ _ _ _ => rfl,
    fun _ _ _ _ => rfl, fun _ _ => rfl, fun _ _ => List.take_nil, fun _ _ _ _ => rfl, fun _ _ => rfl, fun _ _ => List.drop_nil⟩
theorem nzA : (∀ (env : Nat → AV) d t x, upd env d x t = if t = d then x else env t) ∧ (∀ W (env : Nat → AV) t, era W env t = if W.contains t then .any else env t) ∧
    (∀ T x, pushT T x = ⟨T.slots ++ [(T.ep, x)], T.ep + 1⟩) ∧ (∀ ins, insT ins = ⟨ins.map fun x => (0, x), 1⟩) ∧
    (∀ (α : Type) (cs : List α) off xs, splice cs off xs = cs.take off ++ xs ++ cs.drop (off + xs.length)) ∧
    (∀ g b o, (ung g b o).dst = o.dst) ∧ (∀ z, packR [z] = z) ∧ packR [] = .tup [] ∧ (∀ x y l, packR (x :: y :: l) = .tup (x :: y :: l)) ∧ (∀ T, unp [] T = ([], T)) ∧
    (∀ e es ys T, unp (.own e es :: ys) T = (.sl T.slots.length T.ep 0 es.length :: (unp ys (pushT T (.own e es))).1, (unp ys (pushT T (.own e es))).2)) ∧
    (∀ x ys T, unp (.v x :: ys) T = (.v x :: (unp ys T).1, (unp ys T).2)) ∧ (∀ x ys T, unp (.ro x :: ys) T = (.ro x :: (unp ys T).1, (unp ys T).2)) ∧ (∀ x ys T, unp (.rof x :: ys) T = (.rof x :: (unp ys T).1, (unp ys T).2)) ∧
    (∀ x ys T, unp (.rop x :: ys) T = (.rop x :: (unp ys T).1, (unp ys T).2)) ∧ (∀ x y ys T, unp (.om x y :: ys) T = (.om x y :: (unp ys T).1, (unp ys T).2)) ∧ (∀ x y ys T, unp (.mp x y :: ys) T = (.mp x y :: (unp ys T).1, (unp ys T).2)) ∧ (∀ x ys T, unp (.agg x :: ys) T = (.agg x :: (unp ys T).1, (unp ys T).2)) ∧ (∀ x ys T, unp (.tup x :: ys) T = (.tup x :: (unp ys T).1, (unp ys T).2)) ∧
    (∀ a b c d ys T, unp (.sl a b c d :: ys) T = (.sl a b c d :: (unp ys T).1, (unp ys T).2)) ∧ (∀ a b c d ys T, unp (.ptr a b c d :: ys) T = (.ptr a b c d :: (unp ys T).1, (unp ys T).2)) ∧
    (∀ x ys T, unp (.sln x :: ys) T = (.sln x :: (unp ys T).1, (unp ys T).2)) ∧ (∀ ys T, unp (.any :: ys) T = (.any :: (unp ys T).1, (unp ys T).2)) :=
  ⟨fun _ _ _ _ => rfl, fun _ _ _ => rfl, fun _ _ => rfl, fun _ => rfl, fun _ _ _ _ => rfl, fun _ _ _ => rfl, fun _ => rfl, rfl, fun _ _ _ => rfl, fun _ => rfl, fun _ _ _ _ => rfl,
    fun _ _ _ => rfl, fun _ _ _ => rfl, fun _ _ _ => rfl, fun _ _ _ => rfl, fun _ _ _ _ => rfl, fun _ _ _ _ => rfl, fun _ _ _ => rfl, fun _ _ _ => rfl, fun _ _ _ _ _ _ => rfl, fun _ _ _ _ _ _ => rfl, fun _ _ _ => rfl, fun _ _ => rfl⟩
end Go.Proofs.Ytmihcabjoodogaa
namespace Go.Proofs.Ytmihcabjoodogaa
open Go.RowKit
set_option linter.unusedSimpArgs false
set_option linter.unusedVariables false
section
variable {C : Cx} {T : Sl} {S : Nat → Prop} {vals : List Value} {bss : List (List Nat)} {w w' : World}
end
theorem fold_dense_aux (sz : Nat) : ∀ (es : List (List AV)) (k : Nat) (pre : List AV), pre.length = k * sz → (∀ x ∈ es, x.length = sz) →
    ((List.range' k es.length).zip es).foldl (fun cs p => splice cs (p.1 * sz) p.2) (pre ++ List.replicate (es.length * sz) AV.any) = pre ++ es.flatten
  | [], k, pre, h, _ => by simp
  | x :: es, k, pre, h, hs => by
    have hx := hs x (by simp)
    rw [List.length_cons, List.range'_succ, List.zip_cons_cons, List.foldl_cons]
    have e : splice (pre ++ List.replicate ((es.length + 1) * sz) AV.any) (k * sz) x = (pre ++ x) ++ List.replicate (es.length * sz) AV.any := by
      unfold splice
      rw [List.take_append_of_le_length (by omega), List.take_of_length_le (by omega), List.drop_append, List.drop_eq_nil_of_le (by omega), List.nil_append, List.drop_replicate]
      congr 2
      rw [Nat.succ_mul]; omega
    simp only
    rw [e, fold_dense_aux sz es (k + 1) (pre ++ x) (by rw [List.length_append, h, hx, Nat.succ_mul]) (fun y hy => hs y (by simp [hy]))]
    simp
theorem fold_dense (sz : Nat) (es : List (List AV)) (hs : ∀ x ∈ es, x.length = sz) : ((List.range' 0 es.length).zip es).foldl (fun cs p => splice cs (p.1 * sz) p.2) (List.replicate (es.length * sz) AV.any) = es.flatten := by
  have := fold_dense_aux sz es 0 [] (by simp) hs
  simpa using this
section
variable {C : Cx} {T : Sl} {S : Nat → Prop} {vals : List Value} {bss : List (List Nat)} {w w' : World}
end
section
variable {C : Cx} {o : Oper} {ev : Operand → AV} {T : Sl}
end
section
variable {C : Cx} {Q : Exit → Sta → Prop} {ops : Array Oper} {Ok : Sl → Prop} {fuel : Nat} {listed : Array Bool} {o : Oper} {env : Nat → AV} {T T' : Sl} {n : Nat} {x : AV}
/-- The last one, which waits for all others. -/
theorem adLo (i : Nat) (hi : ops.toList[i]? = some o) (hj : OpJ C o (evA env) T x T') (hr : Region.ready .any ops listed = [i]) (hl : lastB ops o i = true) (h : AD C ops Q Ok fuel (listed.setIfInBounds i true) ⟨putE env o.dst x, T', n⟩) (hg : o.guard = none := by rfl) (ho : opsOk o n = true := by rfl) : AD C ops Q Ok (fuel + 1) listed ⟨env, T, n⟩ :=
  ⟨fun h0 => (by rw [hr] at h0; cases h0), fun j hj' => by
    rw [hr] at hj'
    obtain rfl : j = i := by simpa using hj'
    exact ⟨o, x, T', atL hi, hg, ho, hj, .inr hl, h⟩⟩
end
section
variable {C : Cx} {σ : Sta}
/-- .. or is a list that is owned. -/
inductive Le2 (P : Program) : AV → AV → Prop
  | same {x} : Le2 P x x
  | nil : Le2 P (.v (.slice none 0 0)) (.ro [])
  | nilo {e sz} (h : sizeIs P e sz) : Le2 P (.v (.slice none 0 0)) (.own e [])
theorem Le2.rep {P : Program} {S : Nat → Prop} {w : World} {bs : List Nat} {u : Value} {x y : AV} (h : Le2 P x y) (hr : Rep P S w bs u x) : Rep P S w bs u y := by
  cases h with
  | same => exact hr
  | nil =>
    obtain ⟨rfl, rfl, _⟩ := hr.v_inv
    exact rep_ro_nil
  | nilo h =>
    obtain ⟨rfl, rfl, _⟩ := hr.v_inv
    exact rep_nil h
/-- What a cell says when all is frozen. -/
def fz1 : AV → AV
  | .own _ es => .ro es
  | x => x
def flat2 (x : AV) : Prop := flatA x = true ∨ ∃ e es, x = .own e es ∧ ∀ r ∈ es, ∀ c ∈ r, flatA c = true
end
section
variable {C : Cx} {o : Oper} {ev : Operand → AV} {T : Sl} {t yt : TypeId} {p q : Operand} {x y : Bool}
end
section
variable {C : Cx} {σ : Sta}
end
theorem nzR : (∀ r k x, renA r k (.v x) = .v x) ∧ (∀ r k x, renA r k (.ro x) = .ro x) ∧ (∀ r k x, renA r k (.rof x) = .rof x) ∧ (∀ r k e x, renA r k (.own e x) = .own e x) ∧ (∀ r k cs, renA r k (.agg cs) = .agg (cs.map (ren1 r k))) ∧
    (∀ r k x, ren1 r k (.v x) = .v x) ∧ (∀ r k x, ren1 r k (.ro x) = .ro x) ∧ (∀ r k x, ren1 r k (.rof x) = .rof x) ∧ (∀ r k x, ren1 r k (.sln x) = .sln x) :=
  ⟨fun _ _ _ => rfl, fun _ _ _ => rfl, fun _ _ _ => rfl, fun _ _ _ _ => rfl, fun _ _ _ => rfl, fun _ _ _ => rfl, fun _ _ _ => rfl, fun _ _ _ => rfl, fun _ _ _ => rfl⟩
/-- All of these under one short name, for simp. -/
theorem nA : ((∀ (env : Nat → AV) t, evA env (.tmp t) = env t) ∧ (∀ (env : Nat → AV) k n, evA env (.const (.int k n)) = .v (.int k n)) ∧ (∀ (env : Nat → AV) b, evA env (.const (.bool b)) = .v (.bool b)) ∧ (∀ (env : Nat → AV) s, evA env (.const (.string s)) = .v (.string s)) ∧ (∀ (env : Nat → AV) a n c, evA env (.const (.slice a n c)) = .v (.slice a n c)) ∧ (∀ (env : Nat → AV) f, evA env (.func f) = .v (.func (.func f) #[] #[])) ∧ (∀ (env : Nat → AV) d x, putE env (some d) x = upd env d x) ∧ (∀ (env : Nat → AV) x, putE env none x = env)) ∧ ((∀ x, ldc (.v x) = .v x) ∧ (∀ x, ldc (.ro x) = .ro x) ∧ (∀ x, ldc (.rof x) = .rof x) ∧ (∀ x, ldc (.rop x) = .rop x) ∧ (∀ e x, ldc (.own e x) = .sln x.length) ∧ (∀ n, ldc (.sln n) = .sln n) ∧ ldc .any = .any ∧ (∀ x, stc (.v x) = .v x) ∧ (∀ x, stc (.ro x) = .ro x) ∧ (∀ x, stc (.rof x) = .rof x) ∧ (∀ x, stc (.rop x) = .rop x) ∧ (∀ n, stc (.sln n) = .sln n) ∧ stc .any = .any ∧ (∀ a b c d, stc (.sl a b c d) = .any) ∧ (∀ a b c d, stc (.ptr a b c d) = .any)) ∧ ((∀ r k x, renA r k (.v x) = .v x) ∧ (∀ r k x, renA r k (.ro x) = .ro x) ∧ (∀ r k x, renA r k (.rof x) = .rof x) ∧ (∀ r k e x, renA r k (.own e x) = .own e x) ∧ (∀ r k cs, renA r k (.agg cs) = .agg (cs.map (ren1 r k))) ∧ (∀ r k x, ren1 r k (.v x) = .v x) ∧ (∀ r k x, ren1 r k (.ro x) = .ro x) ∧ (∀ r k x, ren1 r k (.rof x) = .rof x) ∧ (∀ r k x, ren1 r k (.sln x) = .sln x)) ∧ ((∀ (env : Nat → AV) d t x, upd env d x t = if t = d then x else env t) ∧ (∀ W (env : Nat → AV) t, era W env t = if W.contains t then .any else env t) ∧ (∀ T x, pushT T x = ⟨T.slots ++ [(T.ep, x)], T.ep + 1⟩) ∧ (∀ ins, insT ins = ⟨ins.map fun x => (0, x), 1⟩) ∧ (∀ (α : Type) (cs : List α) off xs, splice cs off xs = cs.take off ++ xs ++ cs.drop (off + xs.length)) ∧ (∀ g b o, (ung g b o).dst = o.dst) ∧ (∀ z, packR [z] = z) ∧ packR [] = .tup [] ∧ (∀ x y l, packR (x :: y :: l) = .tup (x :: y :: l)) ∧ (∀ T, unp [] T = ([], T)) ∧ (∀ e es ys T, unp (.own e es :: ys) T = (.sl T.slots.length T.ep 0 es.length :: (unp ys (pushT T (.own e es))).1, (unp ys (pushT T (.own e es))).2)) ∧ (∀ x ys T, unp (.v x :: ys) T = (.v x :: (unp ys T).1, (unp ys T).2)) ∧ (∀ x ys T, unp (.ro x :: ys) T = (.ro x :: (unp ys T).1, (unp ys T).2)) ∧ (∀ x ys T, unp (.rof x :: ys) T = (.rof x :: (unp ys T).1, (unp ys T).2)) ∧ (∀ x ys T, unp (.rop x :: ys) T = (.rop x :: (unp ys T).1, (unp ys T).2)) ∧ (∀ x y ys T, unp (.om x y :: ys) T = (.om x y :: (unp ys T).1, (unp ys T).2)) ∧ (∀ x y ys T, unp (.mp x y :: ys) T = (.mp x y :: (unp ys T).1, (unp ys T).2)) ∧ (∀ x ys T, unp (.agg x :: ys) T = (.agg x :: (unp ys T).1, (unp ys T).2)) ∧ (∀ x ys T, unp (.tup x :: ys) T = (.tup x :: (unp ys T).1, (unp ys T).2)) ∧ (∀ a b c d ys T, unp (.sl a b c d :: ys) T = (.sl a b c d :: (unp ys T).1, (unp ys T).2)) ∧ (∀ a b c d ys T, unp (.ptr a b c d :: ys) T = (.ptr a b c d :: (unp ys T).1, (unp ys T).2)) ∧ (∀ x ys T, unp (.sln x :: ys) T = (.sln x :: (unp ys T).1, (unp ys T).2)) ∧ (∀ ys T, unp (.any :: ys) T = (.any :: (unp ys T).1, (unp ys T).2))) ∧ ((∀ (a b : Nat) (l : List Nat), (a :: l).contains b = (b == a || l.contains b)) ∧ (∀ a : Nat, ([] : List Nat).contains a = false) ∧ (∀ b, (b || false) = b) ∧ (∀ b, (false || b) = b) ∧ (∀ b, (true || b) = true) ∧ (∀ b, (b || true) = true) ∧ ((false = true) = False) ∧ (∀ (α : Type) (x d : α) (l : List α), (x :: l).getD 0 d = x) ∧ (∀ (α : Type) (x d : α) (l : List α) n, (x :: l).getD (n + 1) d = l.getD n d) ∧ (∀ (α : Type) (d : α) n, ([] : List α).getD n d = d) ∧ (∀ (α β : Type) (f : α → β) x l, (x :: l).map f = f x :: l.map f) ∧ (∀ (α β : Type) (f : α → β), [].map f = []) ∧ (∀ (α : Type) (l : List α), [] ++ l = l) ∧ (∀ (α : Type) (x : α) (l m : List α), (x :: l) ++ m = x :: (l ++ m)) ∧ (∀ (α : Type) (l : List α), l ++ [] = l) ∧ (∀ (α : Type) (x : α) (l : List α), (x :: l).length = l.length + 1) ∧ (∀ (α : Type), ([] : List α).length = 0) ∧ (∀ (α β : Type) (f : α → β) (l : List α), (l.map f).length = l.length) ∧ (∀ n : Nat, 0 + n = n) ∧ (∀ (α : Type) (x y : α) (l : List α), (x :: l).set 0 y = y :: l) ∧ (∀ (α : Type) (x y : α) (l : List α) n, (x :: l).set (n + 1) y = x :: l.set n y) ∧ (∀ (α : Type) (x : α) (l : List α) n, (x :: l).take (n + 1) = x :: l.take n) ∧ (∀ (α : Type) (l : List α), l.take 0 = []) ∧ (∀ (α : Type) n, ([] : List α).take n = []) ∧ (∀ (α : Type) (x : α) (l : List α) n, (x :: l).drop (n + 1) = l.drop n) ∧ (∀ (α : Type) (l : List α), l.drop 0 = l) ∧ (∀ (α : Type) n, ([] : List α).drop n = [])) := ⟨evS, lcS, nzR, nzA, nzL⟩
theorem hcS : (∀ a b : Bool, ((a && b) = true) = (a = true ∧ b = true)) ∧ (∀ a b : Bool, ((a || b) = true) = (a = true ∨ b = true)) ∧ (∀ a b : Bool, ((a || b) = false) = (a = false ∧ b = false)) ∧ (∀ a b : Bool, ((a && b) = false) = (a = false ∨ b = false)) ∧
    (∀ (p : Prop) [Decidable p], (decide p = true) = p) ∧ (∀ (p : Prop) [Decidable p], (decide p = false) = ¬ p) ∧ (∀ a b : Int, (¬ a ≤ b) = (b < a)) ∧ (∀ a b : Int, (¬ a < b) = (b ≤ a)) ∧ (∀ (α : Type) [LE α] (a b : α), (a ≥ b) = (b ≤ a)) ∧ (∀ (α : Type) [LT α] (a b : α), (a > b) = (b < a)) ∧
    (∀ b : Bool, ((!b) = true) = (b = false)) ∧ (∀ b : Bool, ((!b) = false) = (b = true)) ∧ (∀ (α : Type) [BEq α] [LawfulBEq α] (a b : α), ((a != b) = true) = (a ≠ b)) ∧ (∀ (α : Type) [BEq α] [LawfulBEq α] (a b : α), ((a == b) = true) = (a = b)) ∧
    (∀ (α : Type) [BEq α] [LawfulBEq α] (a b : α), ((a != b) = false) = (a = b)) ∧ (∀ (α : Type) [BEq α] [LawfulBEq α] (a b : α), ((a == b) = false) = (a ≠ b)) ∧ (∀ (α : Type) (a b : α), (a ≠ b) = ¬ (a = b)) := by
  refine ⟨?_, ?_, ?_, ?_, ?_, ?_, ?_, ?_, ?_, ?_, ?_, ?_, ?_, ?_, ?_, ?_, ?_⟩
  case refine_4 => intro a b; cases a <;> cases b <;> simp
  case refine_11 => intro b; cases b <;> simp
  case refine_12 => intro b; cases b <;> simp
  all_goals intros; simp
end Go.Proofs.Ytmihcabjoodogaa
namespace Go.Proofs.Ytmihcabjoodogaa
open Go.RowKit
set_option linter.unusedSimpArgs false
set_option linter.unusedVariables false
section
variable {C : Cx} {o : Oper} {ev : Operand → AV} {T : Sl}
end
end Go.Proofs.Ytmihcabjoodogaa
namespace Go.Proofs.Ytmihcabjoodogaa
open Go.RowKit
set_option linter.unusedSimpArgs false
set_option linter.unusedVariables false
section
variable {C : Cx} {T : Sl} {S S2 : Nat → Prop} {vals : List Value} {bss : List (List Nat)} {w w' : World}
/-- How a call that lends the slots r1 and r2 sees its arguments. -/
inductive View2 (T : Sl) (r1 k1 r2 k2 : Nat) : AV → AV → Prop
  | base {y x} (h : View T false y x) : View2 T r1 k1 r2 k2 y x
  | ptr {i j} : View2 T r1 k1 r2 k2 (.ptr r1 k1 i j) (.ptr 0 0 i j)
  | sl {off len} : View2 T r1 k1 r2 k2 (.sl r2 k2 off len) (.sl 1 0 off len)
variable {o : Oper} {ev : Operand → AV}
end
end Go.Proofs.Ytmihcabjoodogaa
namespace Go.Proofs.Ytmihcabjoodogaa
open Go.RowKit
set_option linter.unusedSimpArgs false
set_option linter.unusedVariables false
section
variable {C : Cx} {σ : Sta} {c : Code} {Q : Exit → Sta → Prop}
theorem Gh.share {e : TypeId} {es es2 : List (List AV)} {r k : Nat} (hT : σ.T.slots[r]? = some (k, .own e es)) (hl : es2.length = es.length)
    (H : ∀ (S : Nat → Prop) (w : World) (bs : List Nat) (v : Value), Rep C.P S w bs v (.own e es) → bs.Nodup → ∃ (b bs2 : List Nat), bs2.Nodup ∧ (∀ x ∈ b, x ∈ bs ∧ x ∉ bs2) ∧ (∀ x ∈ bs2, x ∈ bs) ∧ Rep C.P (fun q => S q ∨ q ∈ b) w bs2 v (.own e es2)) :
    Gh C σ ⟨σ.env, ⟨σ.T.slots.set r (k, .own e es2), σ.T.ep⟩, σ.n⟩ := by
  intro a w ⟨hd, hn, S, vals, bss, hm, he⟩
  obtain ⟨v, bs, hv, hb, hrep⟩ := hm.slot hT
  obtain ⟨b, bs2, n2, hbb, hb2, hr3⟩ := H S w bs v hrep (hm.nodup r bs hb)
  have hrl : r < σ.T.slots.length := (List.getElem?_eq_some_iff.1 hT).1
  have hbt : ∀ (q : Nat) (b1 : List Nat), (bss.set r bs2)[q]? = some b1 → (b1 = bs2 ∧ q = r) ∨ (q ≠ r ∧ bss[q]? = some b1) := by
    intro q b1 h
    rw [getElem?_set_ _ _ _ _ (by rw [hm.nb]; exact hrl)] at h
    split at h
    · rename_i e1; injection h with h; exact .inl ⟨h.symm, e1.symm⟩
    · rename_i e1; exact .inr ⟨fun e => e1 e.symm, h⟩
  have hf : Follows C.P S w σ.T vals (fun q => S q ∨ q ∈ b) w ⟨σ.T.slots.set r (k, .own e es2), σ.T.ep⟩ vals := by
    intro u x hx
    have key2 : ∀ (q kq : Nat) (x : AV), (σ.T.slots.set r (k, .own e es2))[q]? = some (kq, x) → σ.T.slots[q]? = some (kq, x) ∨ (q = r ∧ kq = k ∧ x = .own e es2) := by
      intro q kq x q1
      rw [getElem?_set_ _ _ _ _ hrl] at q1
      split at q1
      · rename_i e1; injection q1 with q1; injection q1 with q0 q1; exact .inr ⟨e1.symm, q0.symm, q1.symm⟩
      · exact .inl q1
    cases x with
    | sl q kq off len => exact ⟨hx.1, hx.2.1, fun e2 es2 v2 sz2 q1 q2 q3 => by
        rcases key2 _ _ _ q1 with h | ⟨rfl, rfl, h⟩
        · exact hx.2.2 e2 es2 v2 sz2 h q2 q3
        · injection h with h1 h2
          subst h1; subst h2
          rw [hl]
          exact hx.2.2 e2 es v2 sz2 hT q2 q3⟩
    | ptr q kq i2 j2 => exact ⟨hx.1, hx.2.1, fun e2 es2 v2 sz2 q1 q2 q3 => by
        rcases key2 _ _ _ q1 with h | ⟨rfl, rfl, h⟩
        · exact hx.2.2 e2 es2 v2 sz2 h q2 q3
        · injection h with h1 h2
          subst h1; subst h2
          rw [hl]
          exact hx.2.2 e2 es v2 sz2 hT q2 q3⟩
    | mp q kq => exact ⟨hx.1, hx.2.1, fun b1 ks v1 q1 q2 => by
        rcases key2 _ _ _ q1 with h | ⟨rfl, rfl, h⟩
        · exact hx.2.2 b1 ks v1 h q2
        · cases h⟩
    | nm => exact hx
    | byt => exact hx
    | om => exact hx
    | _ => exact RefOK.kept (T := σ.T) (vals := vals) hx (Kept.refl (fun _ => True) w) (fun _ _ _ => trivial) (fun q h => .inl h)
  refine ⟨hd, hn, fun q => S q ∨ q ∈ b, vals, bss.set r bs2, ⟨hm.kept, fun q h => .inl (hm.s0 q h), fun q h => ?_, fun q h => ?_, by simp [hm.nv], by simp [hm.nb], ?_, ?_, ?_, ?_, ?_, ?_, ?_, hm.pos⟩, fun q hq => TmpOK.follows hf (he q hq)⟩
  · rcases h with h | h
    · exact hm.sub q h
    · rcases hm.mine r bs hb q (hbb q h).1 with h | h
      · exact .inr (.inl h)
      · exact .inr (.inr h)
  · rcases h with h | h
    · exact hm.lt q h
    · exact hm.blt hb q (hbb q h).1
  · intro q kq y u b1 q1 q2 q3
    rw [getElem?_set_ _ _ _ _ hrl] at q1
    rcases hbt q b1 q3 with ⟨rfl, rfl⟩ | ⟨hne, q4⟩
    · rw [if_pos rfl] at q1
      injection q1 with q1; injection q1 with _ q1
      subst q1
      rw [hv] at q2
      injection q2 with q2
      subst q2
      exact hr3
    · rw [if_neg (fun e => hne e.symm)] at q1
      exact (hm.rep q kq y u b1 q1 q2 q4).mono fun _ _ h => .inl h
  · intro q b1 q1
    rcases hbt q b1 q1 with ⟨rfl, rfl⟩ | ⟨hne, q4⟩
    · exact n2
    · exact hm.nodup q b1 q4
  · intro q q' b1 b2 hne q1 q2 x hx1 hx2
    rcases hbt q b1 q1 with ⟨rfl, rfl⟩ | ⟨hne1, q4⟩
    · rcases hbt q' b2 q2 with ⟨rfl, rfl⟩ | ⟨hne2, q5⟩
      · exact hne rfl
      · exact hm.disj q q' bs b2 hne hb q5 x (hb2 x hx1) hx2
    · rcases hbt q' b2 q2 with ⟨rfl, rfl⟩ | ⟨hne2, q5⟩
      · exact hm.disj q q' b1 bs hne q4 hb x hx1 (hb2 x hx2)
      · exact hm.disj q q' b1 b2 hne q4 q5 x hx1 hx2
  · intro q b1 q1 x hx1 hS
    rcases hbt q b1 q1 with ⟨rfl, rfl⟩ | ⟨hne1, q4⟩
    · rcases hS with hS | hS
      · exact hm.apart q bs hb x (hb2 x hx1) hS
      · exact (hbb x hS).2 hx1
    · rcases hS with hS | hS
      · exact hm.apart q b1 q4 x hx1 hS
      · exact hm.disj q r b1 bs hne1 q4 hb x hx1 (hbb x hS).1
  · intro q b1 q1 x hx1
    rcases hbt q b1 q1 with ⟨rfl, rfl⟩ | ⟨hne1, q4⟩
    · exact hm.mine q bs hb x (hb2 x hx1)
    · exact hm.mine q b1 q4 x hx1
  · intro q y hlt q1
    rw [getElem?_set_ _ _ _ _ hrl] at q1
    split at q1
    · rename_i e1
      injection q1 with q1; injection q1 with q1 _
      subst e1
      exact hm.root r _ hlt (by rw [hT, q1])
    · exact hm.root q y hlt q1
  · intro q kq y q1
    rw [getElem?_set_ _ _ _ _ hrl] at q1
    split at q1
    · injection q1 with q1; injection q1 with q1 _
      rw [← q1]; exact hm.ver r k _ hT
    · exact hm.ver q kq y q1
def GhE (C : Cx) (σ : Sta) (P : Value → Sta) : Prop := ∀ a w, St C σ a w → ∃ u, u.oneCell' = true ∧ St C (P u) a w
/-- An operation on a named slice. -/
theorem OpJ.nm {o : Oper} {env : Nat → AV} {T T' : Sl} {t r k : Nat} {u : Value} {e : TypeId} {es : List (List AV)} {x : AV} (ht : env t = .v u) (hT : T.slots[r]? = some (k, .nm u e es))
    (h : OpJ C o (evA (upd env t (.sl r T.ep 0 es.length))) ⟨T.slots.set r (T.ep, .own e es), T.ep + 1⟩ x T') : OpJ C o (evA env) T x T' := by
  intro a w S vals bss hm ho K hK Q
  obtain ⟨v, bs, hv, hb, hrep⟩ := hm.slot hT
  have hnm : v = u ∧ Rep C.P S w bs u (.own e es) := by
    cases hrep with
    | nm h => exact ⟨rfl, h⟩
  obtain ⟨rfl, hr1⟩ := hnm
  have hrl : r < T.slots.length := (List.getElem?_eq_some_iff.1 hT).1
  obtain ⟨hm1, hf1⟩ := hm.set (k' := T.ep) (ep' := T.ep + 1) hT hv hb (Kept.refl _ w) hr1 (hm.nodup r bs hb) (fun b h => .inl h) (.inr ⟨rfl, rfl⟩)
  refine h a w S _ _ hm1 (fun y hy => ?_) K (fun v2 w' S' vals' bss' q1 q2 q3 => hK v2 w' S' vals' bss' q1 (fun u x hx => q2 u x (hf1 u x hx)) q3) Q
  have h0 := TmpOK.follows hf1 (ho y hy)
  cases y with
  | tmp t' =>
    by_cases he : t' = t
    · subst he
      have e1 : evA (upd env t' (.sl r T.ep 0 es.length)) (.tmp t') = .sl r T.ep 0 es.length := by show upd env t' _ t' = _; unfold upd; rw [if_pos rfl]
      rw [e1]
      have e2 : a.eval (.tmp t') = v := by
        have := ho _ hy
        rw [show evA env (.tmp t') = .v v from ht] at this
        exact this.v
      rw [e2]
      refine ⟨Nat.lt_succ_self _, hr1.one, fun e2 es2 v2 sz2 q1 q2 q3 => ?_⟩
      rw [getElem?_set_ _ _ _ _ hrl, if_pos rfl] at q1
      rw [getElem?_set_ _ _ _ _ (by rw [hm.nv]; exact hrl), if_pos rfl] at q2
      injection q1 with q1; injection q1 with _ q1; injection q1 with q1 q4
      injection q2 with q2
      subst q1; subst q2; subst q4
      obtain ⟨us1, sz1, bss1, -, hi1, hsz1, hown1, -⟩ := hr1.own_inv
      refine ⟨by omega, ?_⟩
      rcases hown1.2 with ⟨hnil, h0'⟩ | ⟨g, cap', cur, hcap, -, -, p1, p2, -⟩
      · exact ⟨none, 0, 0, hnil, by omega, Nat.le_refl _, by unfold maxLen; omega, .inl ⟨rfl, by rw [hnil, h0']⟩⟩
      · exact ⟨_, _, _, hcap, by omega, p1, p2, .inl ⟨rfl, hcap⟩⟩
    · have e1 : evA (upd env t (.sl r T.ep 0 es.length)) (.tmp t') = evA env (.tmp t') := by show upd env t _ t' = env t'; unfold upd; rw [if_neg he]
      rw [e1]; exact h0
  | _ => exact h0
end
end Go.Proofs.Ytmihcabjoodogaa
namespace Go.Proofs.Ytmihcabjoodogaa
open Go.RowKit
set_option linter.unusedSimpArgs false
set_option linter.unusedVariables false
section
variable {C : Cx} {ops : Array Oper} {Q : Exit → Sta → Prop} {Ok : Sl → Prop}
def onB (ops : Array Oper) : Nat → Oper → Nat → Bool
  | 0, o, q => o.after.any fun e => Region.binds .any e && e.on == q
  | d + 1, o, q => (o.after.any fun e => Region.binds .any e && e.on == q) || o.after.any fun e => Region.binds .any e && match ops[e.on]? with | some o2 => onB ops d o2 q | none => false
def lastT (ops : Array Oper) (o : Oper) (i : Nat) : Bool := (List.range ops.size).all fun q => q == i || onB ops 3 o q
def Clo (ops : Array Oper) (listed : Array Bool) : Prop := ∀ j oj, ops[j]? = some oj → listed.getD j false = true → ∀ e ∈ oj.after, Region.binds .any e = true → listed.getD e.on false = true
theorem Clo.nil {n : Nat} : Clo ops (Array.replicate n false) := fun j oj _ h => by
  simp [Array.getD] at h
theorem getD_set_true {l : Array Bool} {i q : Nat} (h : l.getD q false = true) : (l.setIfInBounds i true).getD q false = true := by
  simp only [Array.getD_eq_getD_getElem?, Array.getElem?_setIfInBounds] at h ⊢
  by_cases hq : i = q
  · subst hq
    by_cases hs : i < l.size
    · simp [hs]
    · rw [Array.getElem?_eq_none (by omega)] at h; cases h
  · rw [if_neg hq]; exact h
theorem Clo.set {l : Array Bool} {i : Nat} (h : Clo ops l) (hr : i ∈ Region.ready .any ops l) : Clo ops (l.setIfInBounds i true) := fun j oj hj hl e he hb => by
  by_cases hij : i = j
  · subst hij
    obtain ⟨_, o, ho, hall⟩ := mem_ready.1 hr
    have : o = oj := Option.some.inj (ho.symm.trans hj)
    subst this
    exact getD_set_true (hall e he hb)
  · refine getD_set_true (h j oj hj ?_ e he hb)
    simpa only [Array.getD_eq_getD_getElem?, Array.getElem?_setIfInBounds, if_neg hij] using hl
theorem onB_on {l : Array Bool} (hc : Clo ops l) : ∀ (d : Nat) {o : Oper} {q : Nat}, onB ops d o q = true → (∀ e ∈ o.after, Region.binds .any e = true → l.getD e.on false = true) → l.getD q false = true
  | 0, o, q, h, ho => by
    unfold onB at h
    obtain ⟨e, he, h⟩ := Array.any_eq_true'.1 h
    simp only [Bool.and_eq_true, beq_iff_eq] at h
    rw [← h.2]; exact ho e he h.1
  | d + 1, o, q, h, ho => by
    unfold onB at h
    rcases (Bool.or_eq_true _ _).mp h with h | h
    · obtain ⟨e, he, h⟩ := Array.any_eq_true'.1 h
      simp only [Bool.and_eq_true, beq_iff_eq] at h
      rw [← h.2]; exact ho e he h.1
    · obtain ⟨e, he, h⟩ := Array.any_eq_true'.1 h
      rw [Bool.and_eq_true] at h
      cases h2 : ops[e.on]? with
      | none => rw [h2] at h; cases h.2
      | some o2 =>
        rw [h2] at h
        exact onB_on hc d h.2 fun e2 he2 hb2 => hc e.on o2 h2 (ho e he h.1) e2 he2 hb2
theorem lastT_on {o : Oper} {i q : Nat} {l : Array Bool} (h : lastT ops o i = true) (hc : Clo ops l) (ho : ∀ e ∈ o.after, Region.binds .any e = true → l.getD e.on false = true) (hq : q < ops.size) (hne : q ≠ i) : l.getD q false = true := by
  unfold lastT at h
  have h1 := List.all_eq_true.1 h q (List.mem_range.2 hq)
  rcases (Bool.or_eq_true _ _).mp h1 with h1 | h1
  · exact absurd (beq_iff_eq.1 h1) hne
  · exact onB_on hc 3 h1 ho
def AE (C : Cx) (ops : Array Oper) (Q : Exit → Sta → Prop) (Ok : Sl → Prop) : Nat → Array Bool → Sta → Prop
  | 0, listed, σ => Region.ready .any ops listed = [] ∧ Q .normal σ
  | f + 1, listed, σ => Clo ops listed → (Region.ready .any ops listed = [] → Q .normal σ) ∧ ∀ i ∈ Region.ready .any ops listed, ∃ o x T', ops[i]? = some o ∧ o.guard = none ∧ opsOk o σ.n = true ∧ OpJ C o (evA σ.env) σ.T x T' ∧ (Ok T' ∨ lastT ops o i = true) ∧ AE C ops Q Ok f (listed.setIfInBounds i true) ⟨putE σ.env o.dst x, T', σ.n⟩
theorem AE.any : ∀ (f : Nat) (listed : Array Bool) (σ : Sta), Clo ops listed → AE C ops Q Ok f listed σ → AWAny C ops Q f listed σ
  | 0, _, _, _, h => AWAny.done h.1 h.2
  | f + 1, listed, σ, hc, h => by
    by_cases hr : Region.ready .any ops listed = []
    · exact AWAny.done hr ((h hc).1 hr)
    · refine AWAny.all rfl hr fun i hi => ?_
      obtain ⟨o, x, T', h1, h2, h3, h4, _, h6⟩ := (h hc).2 i hi
      exact AWOp.op h1 h2 h3 h4 (AE.any f _ _ (hc.set hi) h6)
theorem AE.first {i : Nat} {oi : Oper} {x : AV} {n : Nat} {ev0 : Operand → AV} (hi : ops[i]? = some oi) (hg : oi.guard = none) (hok : opsOk oi n = true) (hj : ∀ T', Ok T' → OpJ C oi ev0 T' x T') :
    ∀ (f : Nat) (listed : Array Bool) (env : Nat → AV) (T : Sl),
      (∀ j oj, ops[j]? = some oj → j ≠ i → listed.getD j true = false → (∀ e ∈ oj.after, Region.binds .any e = true → e.on ≠ i) → oi.apart ops oj = true) →
      i ∈ Region.ready .any ops listed → (∀ y ∈ oi.op.operands, evA env y = ev0 y) → Ok T →
      AE C ops Q Ok f (listed.setIfInBounds i true) ⟨putE env oi.dst x, T, n⟩ → AE C ops Q Ok (f + 1) listed ⟨env, T, n⟩ := by
  intro f
  induction f with
  | zero =>
    intro listed env T _ hr hev hT H hc
    refine ⟨fun h => (by rw [h] at hr; cases hr), fun j hjr => ?_⟩
    by_cases hji : j = i
    · subst hji; exact ⟨oi, x, T, hi, hg, hok, (hj T hT).congr hev, .inl hT, H⟩
    · have := ready_mono hjr hji
      rw [H.1] at this
      cases this
  | succ f ih =>
    intro listed env T hfree hr hev hT H hc
    have hun := (mem_ready.1 hr).1
    refine ⟨fun h => (by rw [h] at hr; cases hr), fun j hjr => ?_⟩
    by_cases hji : j = i
    · subst hji; exact ⟨oi, x, T, hi, hg, hok, (hj T hT).congr hev, .inl hT, H⟩
    · obtain ⟨oj, y, T', h1, h2, h3, h4, h5, h6⟩ := (H (hc.set hr)).2 j (ready_mono hjr hji)
      obtain ⟨hjun, oj', hoj, hall⟩ := mem_ready.1 hjr
      have : oj' = oj := Option.some.inj (hoj.symm.trans h1)
      subst this
      have hnot : ∀ e ∈ oj'.after, Region.binds .any e = true → e.on ≠ i := fun e he hb heq => by
        have h1 := hall e he hb
        rw [heq, getD_both hun] at h1
        cases h1
      replace h5 : Ok T' := by
        rcases h5 with h5 | h5
        · exact h5
        · have h7 := lastT_on h5 hc hall (Array.getElem?_eq_some_iff.1 hi).1 (Ne.symm hji)
          rw [getD_both hun] at h7
          cases h7
      obtain ⟨a1, a2, a3⟩ := Oper.apart_spec (hfree j oj' hoj hji hjun hnot)
      have hfree' : ∀ k ok, ops[k]? = some ok → k ≠ i → (listed.setIfInBounds j true).getD k true = false → (∀ e ∈ ok.after, Region.binds .any e = true → e.on ≠ i) → oi.apart ops ok = true := fun k ok hk hki hun hno => by
        refine hfree k ok hk hki ?_ hno
        by_cases hjk : j = k
        · subst hjk; exact hjun
        · rw [getD_set_ne true hjk] at hun; exact hun
      refine ⟨oj', y, T', h1, h2, h3, h4.congr fun q hq => (evA_put a1 q hq).symm, .inl h5, ?_⟩
      refine ih _ _ _ hfree' (ready_mono hr (Ne.symm hji)) (fun q hq => (evA_put a3 q hq).trans (hev q hq)) h5 ?_
      rw [Array.setIfInBounds_comm _ _ hji]
      rw [putE_comm (fun t ht ht' => a2 t ht ht')] at h6
      exact h6
end
section
variable {C : Cx} {Q : Exit → Sta → Prop} {ops : Array Oper} {Ok : Sl → Prop} {fuel : Nat} {listed : Array Bool} {o : Oper} {env : Nat → AV} {T T' : Sl} {n : Nat} {x : AV}
end
section
variable {C : Cx} {o : Oper} {ev : Operand → AV} {T : Sl}
/-- A new slice that is only read from the start: no slot changes. -/
theorem OpJ.frz {e : TypeId} {es : List (List AV)} {n : Nat} (h : OpJ C o ev T (.sl T.slots.length T.ep 0 n) (pushT T (.own e es))) (hx : ∀ r ∈ es, ∀ c ∈ r, flatA c = true) (hn : es.length = n) : OpJ C o ev T (.ro es) T := by
  subst hn
  intro a w S vals bss hm0 ho K hK Q
  refine h a w S vals bss hm0 ho K (fun v w' S' vals' bss' hm hf hv => ?_) Q
  have hT : (pushT T (.own e es)).slots[T.slots.length]? = some (T.ep, .own e es) := by simp [pushT]
  have hlt : ∀ r, r < T.slots.length → (pushT T (.own e es)).slots[r]? = T.slots[r]? := fun r hr => by
    show (T.slots ++ [_])[r]? = _
    rw [List.getElem?_append_left hr]
  have hle : T.slots.length ≤ (pushT T (.own e es)).slots.length := by simp [pushT]
  obtain ⟨v2, bs, hv2, hb, hrep⟩ := hm.slot hT
  obtain ⟨us, A, c, sz, hve, p1, p2, hsz, hi, hul, hcc, hcell⟩ := rep_freeze hrep hx
  have tk : ∀ {α : Type} (l : List α) (r : Nat) (x : α), (l.take T.slots.length)[r]? = some x → r < T.slots.length ∧ l[r]? = some x := fun l r x h => by
    rw [List.getElem?_take] at h
    split at h
    · exact ⟨by assumption, h⟩
    · cases h
  have hup : ∀ (r k : Nat) (x : AV), T.slots[r]? = some (k, x) → (pushT T (.own e es)).slots[r]? = some (k, x) := fun r k x hr => by
    rw [hlt r (List.getElem?_eq_some_iff.1 hr).1]; exact hr
  refine hK v w' (fun q => S' q ∨ q ∈ bs) (vals'.take T.slots.length) (bss'.take T.slots.length) ⟨hm.kept, fun q h => .inl (hm.s0 q h), fun q h => ?_, fun q h => ?_, by rw [List.length_take, hm.nv]; omega, by rw [List.length_take, hm.nb]; omega,
    fun r k x v bs q1 q2 q3 => (hm.rep r k x v bs (hup _ _ _ q1) (tk _ _ _ q2).2 (tk _ _ _ q3).2).mono fun _ _ h => .inl h, fun r bs q => hm.nodup r bs (tk _ _ _ q).2, fun r r' b1 b2 hne q1 q2 => hm.disj r r' b1 b2 hne (tk _ _ _ q1).2 (tk _ _ _ q2).2, fun r b1 q b hb1 hS => ?_, fun r bs q => hm.mine r bs (tk _ _ _ q).2, fun r x hlt' q => ?_, hm0.ver, hm0.pos⟩ ?_ ?_
  · rcases h with h | h
    · exact hm.sub q h
    · exact (hm.mine _ bs hb q h).elim (fun h => .inr (.inl h)) (fun h => .inr (.inr h))
  · rcases h with h | h
    · exact hm.lt q h
    · exact hm.blt hb q h
  · obtain ⟨q1, q2⟩ := tk _ _ _ q
    rcases hS with hS | hS
    · exact hm.apart r b1 q2 b hb1 hS
    · exact hm.disj r _ b1 bs (by omega) q2 hb b hb1 hS
  · have h1 := (List.getElem?_eq_some_iff.1 q).1
    rw [List.getElem?_take, if_pos h1]
    exact hm.root r x hlt' (hup _ _ _ q)
  · intro u x hx
    have hx' := hf u x hx
    cases x with
    | sl r k off len => exact ⟨hx.1, hx.2.1, fun e es v sz q1 q2 q3 => hx'.2.2 e es v sz (hup _ _ _ q1) (tk _ _ _ q2).2 q3⟩
    | ptr r k i j => exact ⟨hx.1, hx.2.1, fun e es v sz q1 q2 q3 => hx'.2.2 e es v sz (hup _ _ _ q1) (tk _ _ _ q2).2 q3⟩
    | mp r k => exact ⟨hx.1, hx.2.1, fun b ks v q1 q2 => hx'.2.2 b ks v (hup _ _ _ q1) (tk _ _ _ q2).2⟩
    | _ => exact RefOK.kept hx' (Kept.refl (fun _ => True) w') (fun _ _ _ => trivial) (fun _ h => .inl h)
  · obtain ⟨hol, A0, nn, cap, hve2, g3, g4, g5, g6⟩ := hv.2.2 e es v2 sz hT hv2 hi
    rw [hve] at hve2
    injection hve2 with s1 s2 s3
    subst s1; subst s3
    have hu : v = .slice A es.length c := by
      rcases g6 with ⟨-, h8⟩ | ⟨A', h8, _⟩
      · exact h8
      · omega
    subst hu
    refine Rep.ro (sz := sz) (us := us) p1 p2 hsz (fun hn => ?_) hul fun i u x hu hx => (hcc i u x hu hx).mono fun _ _ h => .inl h
    obtain ⟨g, r1, r2, r3⟩ := hcell hn
    exact ⟨g, 0, r1, .inr r2, fun j u hu => by rw [Nat.zero_add]; exact r3 j u hu⟩
end
end Go.Proofs.Ytmihcabjoodogaa
namespace Go.Proofs.Ytmihcabjoodogaa
open Go.RowKit
set_option linter.unusedSimpArgs false
set_option linter.unusedVariables false
section
variable {C : Cx} {o : Oper} {ev : Operand → AV} {T : Sl}
def OpE (C : Cx) (o : Oper) (ev : Operand → AV) (T : Sl) (p : AV → Prop) : Prop :=
  ∀ (a : Act) (w : World) (S : Nat → Prop) (vals : List Value) (bss : List (List Nat)), Mem C T S vals bss w → (∀ y ∈ o.op.operands, TmpOK C.P S w T vals (a.eval y) (ev y)) →
    ∃ v x, p x ∧ (∀ w, (execOp a.eval o).run C.P w = .ok (.value v) w) ∧ TmpOK C.P S w T vals v x
/-- What is read and no reference. -/
def repA : AV → Bool
  | .v _ => true
  | .ro _ => true
  | .rof _ => true
  | .rop _ => true
  | .clo _ _ => true
  | .bm _ _ => true
  | _ => false
theorem TmpOK.repA {P : Program} {S : Nat → Prop} {w : World} {T : Sl} {vals : List Value} {u : Value} {x : AV} (h : TmpOK P S w T vals u x) (hx : repA x = true) : Rep P S w [] u x := by
  cases x <;> first | exact h | cases hx
end
section
variable {C : Cx} {o : Oper} {ev : Operand → AV} {T : Sl}
end
end Go.Proofs.Ytmihcabjoodogaa
namespace Go.Proofs.Ytmihcabjoodogaa
open Go.RowKit
set_option linter.unusedSimpArgs false
set_option linter.unusedVariables false
section
variable {C : Cx} {o : Oper} {ev : Operand → AV} {T : Sl}
end
section
variable {P : Program} {fn : Func} {σ : Sta} {e : Exit}
end
section
variable {C : Cx} {σ : Sta} {Q : Exit → Sta → Prop}
/-- A box is only read from now on. -/
theorem Gh.freezeP {e : TypeId} {row : List AV} {r k : Nat} (t : Nat) (ht : t < σ.n) (hv : σ.env t = .ptr r k 0 0) (hT : σ.T.slots[r]? = some (k, .own e [row])) (hx : ∀ c ∈ row, flatA c = true) :
    Gh C σ ⟨upd σ.env t (.rop row), ⟨σ.T.slots.set r (k, .any), σ.T.ep⟩, σ.n⟩ := by
  generalize hes : [row] = es at hT
  replace hx : ∀ r ∈ es, ∀ c ∈ r, flatA c = true := fun r hr => by rw [← hes] at hr; rw [List.mem_singleton.1 hr]; exact hx
  intro a w ⟨hd, hn, S, vals, bss, hm, he⟩
  obtain ⟨v, bs, hv2, hb, hrep⟩ := hm.slot hT
  obtain ⟨us, A, c, sz, hve, p1, p2, hsz, hi, hul, hcc, hcell⟩ := rep_freeze hrep hx
  have hrl : r < σ.T.slots.length := (List.getElem?_eq_some_iff.1 hT).1
  have hSS : ∀ q, S q → S q ∨ q ∈ bs := fun q h => .inl h
  have hf : Follows C.P S w σ.T vals (fun q => S q ∨ q ∈ bs) w ⟨σ.T.slots.set r (k, .any), σ.T.ep⟩ vals := by
    intro u x hx
    have key2 : ∀ (q kq : Nat) (x : AV), (σ.T.slots.set r (k, .any))[q]? = some (kq, x) → x ≠ .any → σ.T.slots[q]? = some (kq, x) := by
      intro q kq x q1 hne
      rw [getElem?_set_ _ _ _ _ hrl] at q1
      split at q1
      · injection q1 with q1; injection q1 with _ q1; exact absurd q1.symm hne
      · exact q1
    cases x with
    | sl r k off len => exact ⟨hx.1, hx.2.1, fun e es v sz q1 q2 q3 => hx.2.2 e es v sz (key2 _ _ _ q1 (by simp)) q2 q3⟩
    | ptr r k i j => exact ⟨hx.1, hx.2.1, fun e es v sz q1 q2 q3 => hx.2.2 e es v sz (key2 _ _ _ q1 (by simp)) q2 q3⟩
    | mp r k => exact ⟨hx.1, hx.2.1, fun b ks v q1 q2 => hx.2.2 b ks v (key2 _ _ _ q1 (by simp)) q2⟩
    | _ => exact RefOK.kept (T := σ.T) (vals := vals) hx (Kept.refl (fun _ => True) w) (fun _ _ _ => trivial) hSS
  have hbt : ∀ (q : Nat) (b1 : List Nat), (bss.set r [])[q]? = some b1 → (b1 = [] ∧ q = r) ∨ (q ≠ r ∧ bss[q]? = some b1) := by
    intro q b1 h
    rw [getElem?_set_ _ _ _ _ (by rw [hm.nb]; exact hrl)] at h
    split at h
    · rename_i e1; injection h with h; exact .inl ⟨h.symm, e1.symm⟩
    · rename_i e1; exact .inr ⟨fun e => e1 e.symm, h⟩
  refine ⟨hd, hn, fun q => S q ∨ q ∈ bs, vals, bss.set r [], ⟨hm.kept, fun q h => .inl (hm.s0 q h), fun q h => ?_, fun q h => ?_, by simp [hm.nv], by simp [hm.nb], ?_, ?_, ?_, ?_, ?_, ?_, ?_, hm.pos⟩, fun q hq => ?_⟩
  · rcases h with h | h
    · exact hm.sub q h
    · rcases hm.mine r bs hb q h with h | h
      · exact .inr (.inl h)
      · exact .inr (.inr h)
  · rcases h with h | h
    · exact hm.lt q h
    · exact hm.blt hb q h
  · intro q kq y u b1 q1 q2 q3
    rw [getElem?_set_ _ _ _ _ hrl] at q1
    rcases hbt q b1 q3 with ⟨rfl, rfl⟩ | ⟨hne, q4⟩
    · rw [if_pos rfl] at q1
      injection q1 with q1; injection q1 with _ q1
      subst q1
      rw [hv2] at q2
      injection q2 with q2
      subst q2
      exact .any hrep.one
    · rw [if_neg (fun e => hne e.symm)] at q1
      exact (hm.rep q kq y u b1 q1 q2 q4).mono fun _ _ h => .inl h
  · intro q b1 q1
    rcases hbt q b1 q1 with ⟨rfl, rfl⟩ | ⟨hne, q4⟩
    · simp
    · exact hm.nodup q b1 q4
  · intro q q' b1 b2 hne q1 q2 b hb1 hb2
    rcases hbt q b1 q1 with ⟨rfl, rfl⟩ | ⟨hne1, q4⟩
    · simp at hb1
    · rcases hbt q' b2 q2 with ⟨rfl, rfl⟩ | ⟨hne2, q5⟩
      · simp at hb2
      · exact hm.disj q q' b1 b2 hne q4 q5 b hb1 hb2
  · intro q b1 q1 b hb1 hS
    rcases hbt q b1 q1 with ⟨rfl, rfl⟩ | ⟨hne1, q4⟩
    · simp at hb1
    · rcases hS with hS | hS
      · exact hm.apart q b1 q4 b hb1 hS
      · exact hm.disj q r b1 bs hne1 q4 hb b hb1 hS
  · intro q b1 q1 b hb1
    rcases hbt q b1 q1 with ⟨rfl, rfl⟩ | ⟨hne1, q4⟩
    · simp at hb1
    · exact hm.mine q b1 q4 b hb1
  · intro q y hlt q1
    rw [getElem?_set_ _ _ _ _ hrl] at q1
    split at q1
    · rename_i e1
      injection q1 with q1; injection q1 with q1 _
      subst e1
      exact hm.root r _ hlt (by rw [hT, q1])
    · exact hm.root q y hlt q1
  · intro q kq y q1
    rw [getElem?_set_ _ _ _ _ hrl] at q1
    split at q1
    · injection q1 with q1; injection q1 with q1 _
      rw [← q1]; exact hm.ver r k _ hT
    · exact hm.ver q kq y q1
  · show TmpOK _ _ _ _ _ _ (upd σ.env t _ q)
    unfold upd
    by_cases h : q = t
    · subst h
      rw [if_pos rfl]
      have h1 := he q hq
      rw [hv] at h1
      obtain ⟨hol, g0, nn, cap, hve2, hpe⟩ := h1.2.2 e es v sz hT hv2 hi
      rw [hve] at hve2
      injection hve2 with s1 s2 s3
      subst s1
      have hpe : a.tmps.getD q undef = .pointer (some ⟨g0, 0 * sz + 0, none⟩) := hpe
      rw [hpe]
      subst hes
      have hfl : ([row] : List (List AV)).flatten = row := by simp
      rw [hfl] at hul hcc
      refine (show Rep C.P _ w [] _ (.rop row) from Rep.rop (us := us) (fun hn => ?_) hul fun i u x hu hx => (hcc i u x hu hx).mono fun _ _ h => .inl h)
      obtain ⟨g, r1, r2, r3⟩ := hcell hn
      injection r1 with r1
      injection r1 with r1
      subst r1
      exact ⟨g0, 0 * sz + 0, rfl, .inr r2, fun j u hu => by rw [Nat.zero_mul, Nat.zero_add]; exact r3 j u hu⟩
    · rw [if_neg h]
      exact TmpOK.follows hf (he q hq)
theorem Gh.trans {σ' σ'' : Sta} (h : Gh C σ σ') (h' : Gh C σ' σ'') : Gh C σ σ'' := fun a w hs => h' a w (h a w hs)
theorem Gh.refl : Gh C σ σ := fun _ _ h => h
/-- .. where what is known may first be said otherwise. -/
theorem AW.joinG {ι : Type} {x y : Code} (l : ι → List (Nat × AV)) (T : ι → Sl) (H : ι → Prop) (h1 : AW C x (thenE (fun σ' => ∃ σ'', Gh C σ' σ'' ∧ ∃ i, H i ∧ AllEq σ''.env (l i) ∧ σ''.T = T i ∧ σ''.n = σ.n) Q) σ) (h2 : ∀ i ρ, H i → AW C y Q ⟨updL ρ (l i), T i, σ.n⟩) : AW C (.seq x y) Q σ := by
  refine AW.seq (h1.mono fun e σ' h => ?_)
  cases e with
  | normal =>
    obtain ⟨σ'', gh, i, g1, g2, g3, g4⟩ := h
    have := h2 i σ''.env g1
    rw [updL_self g2, ← g3, ← g4] at this
    exact AW.gh gh this
  | _ => exact h
end
end Go.Proofs.Ytmihcabjoodogaa
namespace Go.Proofs.Ytmihcabjoodogaa
open Go.RowKit
set_option linter.unusedSimpArgs false
set_option linter.unusedVariables false
theorem elem_eqA {P : Program} {t e : TypeId} {n : Nat} (h : P.underlying t = some (.array n e)) : P.elem t = e ∧ P.arrayLen t = n := by simp [Program.elem, Program.arrayLen, h]
section
variable {C : Cx} {o : Oper} {ev : Operand → AV} {T : Sl}
/-- The address of an element of an array (of at least two) in a slot. -/
theorem op_ia_arr {t e : TypeId} {y q : Operand} {kk : IntKind} {n : Int} {r k i j len : Nat} {e0 : TypeId} {es : List (List AV)} (m : Nat) (sz : Nat) (ho : o.op = .indexAddr t y q) (hy : ev y = .ptr r k i j) (hi : ev q = .v (.int kk n))
    (hT : T.slots[r]? = some (k, .own e0 es)) (ht : C.P.underlying t = some (.array len e)) (hn : n = (m : Int)) (hm : m < len) (hs : sizeIs C.P e sz) {j' : Nat} (hj : j + m * sz = j') : OpP C o ev T (.ptr r k i j') := by
  intro a w S vals bss hme h
  have h1 := h y (by simp [ho, Op.operands])
  have h2 := h q (by simp [ho, Op.operands])
  rw [hi] at h2
  rw [hy] at h1
  obtain ⟨v, bs, hv, hb, hrep⟩ := hme.slot hT
  obtain ⟨us, sz', bss', -, hi0, -, -, -, -, -⟩ := hrep.own_inv
  obtain ⟨hil, g, m', cap, hve, e'⟩ := h1.2.2 e0 es v sz' hT hv hi0
  have hee := elem_eqA ht
  subst hn
  have hlt : (m : Int) < (len : Int) := by omega
  refine ⟨.pointer (some ⟨g, i * sz' + j + m * sz, none⟩), fun w => ?_, ⟨h1.1, rfl, ?_⟩⟩
  · simp [execOp, ho, e', h2.v, run_indexAt_array w t _ _ _ (by rw [hee.1, hee.2]; exact ht), hlt, hee.1, hee.2, run_sizeOf hs, add_off]
  · intro e2 es2 v2 sz2 hT2 hv2 hi2
    rw [hT] at hT2
    injection hT2 with hT2
    injection hT2 with _ hT2
    injection hT2 with h3 h4
    subst h3; subst h4
    rw [hv] at hv2
    injection hv2 with hv2
    subst hv2
    have := hi0.inj hi2
    subst this
    exact ⟨hil, g, m', cap, hve, by rw [← hj, Nat.add_assoc]⟩
def isV : AV → Bool
  | .v x => x.oneCell'
  | _ => false
def vOf : AV → Value
  | .v x => x
  | _ => undef
end
end Go.Proofs.Ytmihcabjoodogaa
namespace Go.Proofs.Ytmihcabjoodogaa
open Go.RowKit
set_option linter.unusedSimpArgs false
set_option linter.unusedVariables false
section
variable {C : Cx} {ops : Array Oper} {Q : Exit → Sta → Prop} {Ok : Sl → Prop} {k : Nat}
def bindB (o : Oper) (i : Nat) : Bool := o.after.any fun e => Region.binds .any e && e.on == i
def bindAt (ops : Array Oper) (q i : Nat) : Bool := match ops[q]? with | some o => bindB o i | none => false
def topB (ops : Array Oper) (k : Nat) : Bool := (List.range k).all fun i => ((List.range k).any fun q => decide (i < q) && bindAt ops q i) || (List.range ops.size).all fun j => decide (j < k) || bindAt ops j i || (List.range j).any fun q => decide (k ≤ q) && bindAt ops j q
def dcB (ops : Array Oper) (listed : Array Bool) : Bool := (List.range ops.size).all fun q => !listed.getD q true || (match ops[q]? with | some o => o.after.all fun e => !Region.binds .any e || listed.getD e.on true | none => true)
def DCl (ops : Array Oper) (listed : Array Bool) : Prop := ∀ q o, ops[q]? = some o → listed.getD q true = true → ∀ e ∈ o.after, Region.binds .any e = true → listed.getD e.on true = true
theorem bindB_spec {o : Oper} {i : Nat} (h : bindB o i = true) : ∃ e ∈ o.after, Region.binds .any e = true ∧ e.on = i := by
  unfold bindB at h
  rw [Array.any_eq_true'] at h
  obtain ⟨e, he, h⟩ := h
  simp only [Bool.and_eq_true, beq_iff_eq] at h
  exact ⟨e, he, h.1, h.2⟩
theorem top_all {listed : Array Bool} (ht : topB ops k = true) (hd : DCl ops listed) : ∀ (m j : Nat) {oj : Oper}, j = m → ops[j]? = some oj → k ≤ j → (∀ e ∈ oj.after, Region.binds .any e = true → listed.getD e.on true = true) →
    ∀ n i, i < k → k - i = n → listed.getD i true = true := by
  intro m
  induction m using Nat.strongRecOn with
  | _ m ihm =>
  intro j oj hjm hj hkj hr n
  subst hjm
  induction n using Nat.strongRecOn with
  | _ n ih =>
    intro i hi hn
    have ht0 := ht
    unfold topB at ht0
    have := List.all_eq_true.1 ht0 i (List.mem_range.2 hi)
    simp only [Bool.or_eq_true] at this
    rcases this with h | h
    · obtain ⟨q, hq, h⟩ := List.any_eq_true.1 h
      simp only [Bool.and_eq_true, decide_eq_true_eq] at h
      have hqk := List.mem_range.1 hq
      have hql := ih (k - q) (by omega) q hqk rfl
      have h2 := h.2
      unfold bindAt at h2
      cases ho : ops[q]? with
      | none => rw [ho] at h2; cases h2
      | some o =>
        rw [ho] at h2
        obtain ⟨e, he, hb, rfl⟩ := bindB_spec h2
        exact hd q o ho hql e he hb
    · have h2 := List.all_eq_true.1 h j (List.mem_range.2 (Array.getElem?_eq_some_iff.1 hj).1)
      simp only [Bool.or_eq_true, decide_eq_true_eq] at h2
      rcases h2 with (h2 | h2) | h2
      · omega
      · unfold bindAt at h2
        rw [hj] at h2
        obtain ⟨e, he, hb, rfl⟩ := bindB_spec h2
        exact hr e he hb
      · obtain ⟨q, hq, h⟩ := List.any_eq_true.1 h2
        simp only [Bool.and_eq_true, decide_eq_true_eq] at h
        have hqj := List.mem_range.1 hq
        have h3 := h.2
        unfold bindAt at h3
        rw [hj] at h3
        obtain ⟨e, he, hb, rfl⟩ := bindB_spec h3
        have hel := hr e he hb
        have hlt : e.on < ops.size := by have := (Array.getElem?_eq_some_iff.1 hj).1; omega
        exact ihm e.on hqj e.on rfl (Array.getElem?_eq_getElem hlt) h.1 (fun e' he' hb' => hd e.on _ (Array.getElem?_eq_getElem hlt) hel e' he' hb') (k - i) i hi rfl
def ADk (C : Cx) (ops : Array Oper) (Q : Exit → Sta → Prop) (Ok : Sl → Prop) (k : Nat) : Nat → Array Bool → Sta → Prop
  | 0, listed, σ => Region.ready .any ops listed = [] ∧ Q .normal σ
  | f + 1, listed, σ => (Region.ready .any ops listed = [] → Q .normal σ) ∧ ∀ i ∈ Region.ready .any ops listed, ∃ o x T', ops[i]? = some o ∧ o.guard = none ∧ opsOk o σ.n = true ∧ OpJ C o (evA σ.env) σ.T x T' ∧ (Ok T' ∨ k ≤ i) ∧ ADk C ops Q Ok k f (listed.setIfInBounds i true) ⟨putE σ.env o.dst x, T', σ.n⟩
theorem ADk.any : ∀ (f : Nat) (listed : Array Bool) (σ : Sta), ADk C ops Q Ok k f listed σ → AWAny C ops Q f listed σ
  | 0, _, _, h => AWAny.done h.1 h.2
  | f + 1, listed, σ, h => by
    by_cases hr : Region.ready .any ops listed = []
    · exact AWAny.done hr (h.1 hr)
    · refine AWAny.all rfl hr fun i hi => ?_
      obtain ⟨o, x, T', h1, h2, h3, h4, _, h6⟩ := h.2 i hi
      exact AWOp.op h1 h2 h3 h4 (ADk.any f _ _ h6)
theorem ADk.first {i : Nat} {oi : Oper} {x : AV} {n : Nat} {ev0 : Operand → AV} (hik : i < k) (ht : topB ops k = true) (hi : ops[i]? = some oi) (hg : oi.guard = none) (hok : opsOk oi n = true) (hj : ∀ T', Ok T' → OpJ C oi ev0 T' x T') :
    ∀ (f : Nat) (listed : Array Bool) (env : Nat → AV) (T : Sl),
      DCl ops listed →
      (∀ j oj, ops[j]? = some oj → j ≠ i → listed.getD j true = false → (∀ e ∈ oj.after, Region.binds .any e = true → e.on ≠ i) → oi.apart ops oj = true) →
      i ∈ Region.ready .any ops listed → (∀ y ∈ oi.op.operands, evA env y = ev0 y) → Ok T →
      ADk C ops Q Ok k f (listed.setIfInBounds i true) ⟨putE env oi.dst x, T, n⟩ → ADk C ops Q Ok k (f + 1) listed ⟨env, T, n⟩ := by
  intro f
  induction f with
  | zero =>
    intro listed env T _ _ hr hev hT H
    refine ⟨fun h => (by rw [h] at hr; cases hr), fun j hjr => ?_⟩
    by_cases hji : j = i
    · subst hji; exact ⟨oi, x, T, hi, hg, hok, (hj T hT).congr hev, .inl hT, H⟩
    · have := ready_mono hjr hji
      rw [H.1] at this
      cases this
  | succ f ih =>
    intro listed env T hdc hfree hr hev hT H
    have hun := (mem_ready.1 hr).1
    refine ⟨fun h => (by rw [h] at hr; cases hr), fun j hjr => ?_⟩
    by_cases hji : j = i
    · subst hji; exact ⟨oi, x, T, hi, hg, hok, (hj T hT).congr hev, .inl hT, H⟩
    · obtain ⟨oj, y, T', h1, h2, h3, h4, h5, h6⟩ := H.2 j (ready_mono hjr hji)
      obtain ⟨hjun, oj', hoj, hall⟩ := mem_ready.1 hjr
      have : oj' = oj := Option.some.inj (hoj.symm.trans h1)
      subst this
      have hnot : ∀ e ∈ oj'.after, Region.binds .any e = true → e.on ≠ i := fun e he hb heq => by
        have h1 := hall e he hb
        rw [heq, getD_both hun] at h1
        cases h1
      have hready : ∀ e ∈ oj'.after, Region.binds .any e = true → listed.getD e.on true = true := fun e he hb => by
        have := hall e he hb
        cases hq : listed.getD e.on true with
        | true => rfl
        | false => rw [getD_both hq] at this; cases this
      replace h5 : Ok T' := by
        rcases h5 with h5 | h5
        · exact h5
        · have := top_all ht hdc j j rfl h1 h5 hready _ i hik rfl
          rw [this] at hun
          cases hun
      obtain ⟨a1, a2, a3⟩ := Oper.apart_spec (hfree j oj' hoj hji hjun hnot)
      have hfree' : ∀ k ok, ops[k]? = some ok → k ≠ i → (listed.setIfInBounds j true).getD k true = false → (∀ e ∈ ok.after, Region.binds .any e = true → e.on ≠ i) → oi.apart ops ok = true := fun k ok hk hki hun hno => by
        refine hfree k ok hk hki ?_ hno
        by_cases hjk : j = k
        · subst hjk; exact hjun
        · rw [getD_set_ne true hjk] at hun; exact hun
      have hdc' : DCl ops (listed.setIfInBounds j true) := fun q o ho hq e he hb => by
        by_cases hje : j = e.on
        · rw [← hje]
          by_cases hs : j < listed.size
          · simp [Array.getD_eq_getD_getElem?, hs]
          · simp [Array.getD_eq_getD_getElem?, hs]
        · rw [getD_set_ne true hje]
          by_cases hjq : j = q
          · subst hjq
            have : o = oj' := Option.some.inj (ho.symm.trans hoj)
            subst this
            exact hready e he hb
          · rw [getD_set_ne true hjq] at hq
            exact hdc q o ho hq e he hb
      refine ⟨oj', y, T', h1, h2, h3, h4.congr fun q hq => (evA_put a1 q hq).symm, .inl h5, ?_⟩
      refine ih _ _ _ hdc' hfree' (ready_mono hr (Ne.symm hji)) (fun q hq => (evA_put a3 q hq).trans (hev q hq)) h5 ?_
      rw [Array.setIfInBounds_comm _ _ hji]
      rw [putE_comm (fun t ht ht' => a2 t ht ht')] at h6
      exact h6
variable {fuel : Nat} {listed : Array Bool} {o : Oper} {env : Nat → AV} {T T' : Sl} {n : Nat} {x : AV}
end
section
variable {C : Cx} {o : Oper} {ev : Operand → AV} {T : Sl} {t : TypeId} {p : Operand} {x : Int}
end
end Go.Proofs.Ytmihcabjoodogaa
namespace Go.Proofs.Ytmihcabjoodogaa
open Go.RowKit
set_option linter.unusedSimpArgs false
set_option linter.unusedVariables false
set_option linter.unusedSectionVars false
section
variable {C : Cx} {T : Sl} {S : Nat → Prop} {vals : List Value} {bss : List (List Nat)} {w : World}
end
section
variable {C : Cx} {Q : Exit → Sta → Prop} {σ : Sta}
end
section
open Go.Sort
variable {α : Type} [Inhabited α] {enc : α → Value}
def rowE (enc : α → Value) (x : α) : List AV := [.v (enc x)]
def sortN (lt : α → α → Bool) (ds : List α) : List α := if ds.length ≤ 1 then ds else (Sort.insertionSort lt ds.toArray 0 ds.toArray.size).toList
end
section
open Go.Sort
variable {C : Cx} {o : Oper} {ev : Operand → AV} {T : Sl} {α : Type} [Inhabited α] {enc : α → Value}
end
section
variable {C : Cx} {σ : Sta}
end
section
variable {C : Cx} {o : Oper} {ev : Operand → AV} {T : Sl}
theorem mem_at (h0 : 0 < T.ep) {S : Nat → Prop} {vals : List Value} {bss : List (List Nat)} {w : World} {r k0 : Nat} {y : AV} (hT : T.slots[r]? = some (k0, .any)) (hm : Mem C (pushT T y) S vals bss w) :
    ∃ vals' bss', Mem C ⟨T.slots.set r (T.ep, y), T.ep + 1⟩ S vals' bss' w ∧ vals'[r]? = vals[T.slots.length]? ∧ ∀ q, q < T.slots.length → q ≠ r → vals'[q]? = vals[q]? := by
  have hrl : r < T.slots.length := (List.getElem?_eq_some_iff.1 hT).1
  have hL : (pushT T y).slots[T.slots.length]? = some (T.ep, y) := by simp [pushT]
  have hup : ∀ q, q < T.slots.length → (pushT T y).slots[q]? = T.slots[q]? := fun q hq => by
    show (T.slots ++ [_])[q]? = _
    rw [List.getElem?_append_left hq]
  have hnv : vals.length = T.slots.length + 1 := by rw [hm.nv]; simp [pushT]
  have hnb : bss.length = T.slots.length + 1 := by rw [hm.nb]; simp [pushT]
  obtain ⟨v, bs, hv, hb, hrep⟩ := hm.slot hL
  -- the place in the larger list
  let f : Nat → Nat := fun q => if q = r then T.slots.length else q
  have gv : ∀ q, ((vals.take T.slots.length).set r v)[q]? = if q < T.slots.length then vals[f q]? else none := fun q => by
    by_cases hq : q < T.slots.length
    · rw [if_pos hq, getElem?_set_ _ _ _ _ (by rw [List.length_take]; omega)]
      by_cases he : q = r
      · subst he; rw [if_pos rfl]; show _ = vals[f q]?; rw [show f q = T.slots.length from if_pos rfl, hv]
      · rw [if_neg (fun e => he e.symm), List.getElem?_take_of_lt hq, show f q = q from if_neg he]
    · rw [if_neg hq, List.getElem?_eq_none]; rw [List.length_set, List.length_take]; omega
  have gb : ∀ q, ((bss.take T.slots.length).set r bs)[q]? = if q < T.slots.length then bss[f q]? else none := fun q => by
    by_cases hq : q < T.slots.length
    · rw [if_pos hq, getElem?_set_ _ _ _ _ (by rw [List.length_take]; omega)]
      by_cases he : q = r
      · subst he; rw [if_pos rfl]; show _ = bss[f q]?; rw [show f q = T.slots.length from if_pos rfl, hb]
      · rw [if_neg (fun e => he e.symm), List.getElem?_take_of_lt hq, show f q = q from if_neg he]
    · rw [if_neg hq, List.getElem?_eq_none]; rw [List.length_set, List.length_take]; omega
  have gs : ∀ q, (T.slots.set r (T.ep, y))[q]? = if q < T.slots.length then (pushT T y).slots[f q]? else none := fun q => by
    by_cases hq : q < T.slots.length
    · rw [if_pos hq, getElem?_set_ _ _ _ _ hrl]
      by_cases he : q = r
      · subst he; rw [if_pos rfl]; rw [show f q = T.slots.length from if_pos rfl, hL]
      · rw [if_neg (fun e => he e.symm), show f q = q from if_neg he, hup q hq]
    · rw [if_neg hq, List.getElem?_eq_none]; rw [List.length_set]; omega
  have fi : ∀ q q', q < T.slots.length → q' < T.slots.length → q ≠ q' → f q ≠ f q' := fun q q' h1 h2 hne => by
    show (if q = r then _ else _) ≠ (if q' = r then _ else _)
    split <;> split <;> omega
  have un : ∀ {β : Type} {l : Option β} {q : Nat} {x : β}, (if q < T.slots.length then l else none) = some x → q < T.slots.length ∧ l = some x := fun h => by
    split at h
    · exact ⟨by assumption, h⟩
    · cases h
  refine ⟨(vals.take T.slots.length).set r v, (bss.take T.slots.length).set r bs, ⟨hm.kept, hm.s0, hm.sub, hm.lt, by rw [List.length_set, List.length_set, List.length_take]; omega, by rw [List.length_set, List.length_set, List.length_take]; omega, ?_, ?_, ?_, ?_, ?_, ?_, ?_, by show 0 < T.ep + 1; omega⟩, ?_, ?_⟩
  · intro q k x u b h1 h2 h3
    rw [gs] at h1; rw [gv] at h2; rw [gb] at h3
    exact hm.rep (f q) k x u b (un h1).2 (un h2).2 (un h3).2
  · intro q b h
    rw [gb] at h
    exact hm.nodup _ b (un h).2
  · intro q q' b b' hne h1 h2
    rw [gb] at h1 h2
    exact hm.disj _ _ b b' (fi q q' (un h1).1 (un h2).1 hne) (un h1).2 (un h2).2
  · intro q b h
    rw [gb] at h
    exact hm.apart _ b (un h).2
  · intro q b h
    rw [gb] at h
    exact hm.mine _ b (un h).2
  · intro q x hq h
    rw [gs] at h
    obtain ⟨hql, h⟩ := un h
    rw [gv, if_pos hql]
    by_cases he : q = r
    · subst he
      rw [show f q = T.slots.length from if_pos rfl, hL] at h
      injection h with h
      injection h with h
      omega
    · rw [show f q = q from if_neg he] at h ⊢
      exact hm.root q x hq h
  · intro q k x h
    rw [gs] at h
    exact hm.ver (f q) k x (un h).2
  · rw [gv, if_pos hrl]; show vals[f r]? = _; rw [show f r = T.slots.length from if_pos rfl]
  · intro q hq hne
    rw [gv, if_pos hq, show f q = q from if_neg hne]
theorem follows_at {S S' : Nat → Prop} {vals vals1 vals' : List Value} {w w' : World} {r k0 : Nat} {y : AV} (hT : T.slots[r]? = some (k0, .any)) (hf : Follows C.P S w T vals S' w' (pushT T y) vals1) (hl : vals.length = T.slots.length)
    (hq : ∀ q, q < T.slots.length → q ≠ r → vals'[q]? = vals1[q]?) : Follows C.P S w T vals S' w' ⟨T.slots.set r (T.ep, y), T.ep + 1⟩ vals' := by
  have hrl : r < T.slots.length := (List.getElem?_eq_some_iff.1 hT).1
  have key : ∀ {q k : Nat} {x : AV}, k < T.ep → (T.slots.set r (T.ep, y))[q]? = some (k, x) → q < T.slots.length ∧ q ≠ r ∧ (pushT T y).slots[q]? = some (k, x) := fun {q k x} hk h => by
    have hql : q < T.slots.length := by have := (List.getElem?_eq_some_iff.1 h).1; rwa [List.length_set] at this
    rw [getElem?_set_ _ _ _ _ hrl] at h
    by_cases he : r = q
    · rw [if_pos he] at h
      injection h with h
      injection h with h
      omega
    · rw [if_neg he] at h
      refine ⟨hql, fun e => he e.symm, ?_⟩
      show (T.slots ++ [_])[q]? = _
      rw [List.getElem?_append_left hql]
      exact h
  intro u x hx
  have hx' := hf u x hx
  cases x with
  | sl q k off len => exact ⟨Nat.lt_succ_of_lt hx.1, hx.2.1, fun e es v sz q1 q2 q3 => by
      obtain ⟨a1, a2, a3⟩ := key hx.1 q1
      rw [hq q a1 a2] at q2
      exact hx'.2.2 e es v sz a3 q2 q3⟩
  | ptr q k i j => exact ⟨Nat.lt_succ_of_lt hx.1, hx.2.1, fun e es v sz q1 q2 q3 => by
      obtain ⟨a1, a2, a3⟩ := key hx.1 q1
      rw [hq q a1 a2] at q2
      exact hx'.2.2 e es v sz a3 q2 q3⟩
  | mp q k => exact ⟨Nat.lt_succ_of_lt hx.1, hx.2.1, fun b ks v q1 q2 => by
      obtain ⟨a1, a2, a3⟩ := key hx.1 q1
      rw [hq q a1 a2] at q2
      exact hx'.2.2 b ks v a3 q2⟩
  | _ => exact hx'
theorem OpJ.at {e : TypeId} {es : List (List AV)} {len k0 : Nat} (r : Nat) (hT : T.slots[r]? = some (k0, .any)) (h : OpJ C o ev T (.sl T.slots.length T.ep 0 len) (pushT T (.own e es))) {T' : Sl} (hT' : (⟨T.slots.set r (T.ep, .own e es), T.ep + 1⟩ : Sl) = T') : OpJ C o ev T (.sl r T.ep 0 len) T' := by
  subst hT'
  intro a w S vals bss hm0 ho K hK Q
  have hrl : r < T.slots.length := (List.getElem?_eq_some_iff.1 hT).1
  refine h a w S vals bss hm0 ho K (fun v w' S' vals' bss' hm hf hv => ?_) Q
  obtain ⟨vals2, bss2, hm2, hv1, hv2⟩ := mem_at hm0.pos hT hm
  refine hK v w' S' vals2 bss2 hm2 (follows_at hT hf hm0.nv hv2) ⟨Nat.lt_succ_self _, hv.2.1, fun e2 es2 v2 sz2 q1 q2 q3 => ?_⟩
  rw [getElem?_set_ _ _ _ _ hrl, if_pos rfl] at q1
  injection q1 with q1
  injection q1 with _ q1
  rw [hv1] at q2
  exact hv.2.2 e2 es2 v2 sz2 (by rw [← q1]; simp [pushT]) q2 q3
end
section
variable {C : Cx} {Q : Exit → Sta → Prop} {ops : Array Oper} {Ok : Sl → Prop} {fuel : Nat} {listed : Array Bool} {env : Nat → AV} {T : Sl} {n : Nat}
end
end Go.Proofs.Ytmihcabjoodogaa
namespace Go.Proofs.Ytmihcabjoodogaa
open Go.RowKit
set_option linter.unusedSimpArgs false
set_option linter.unusedVariables false
set_option linter.unusedSectionVars false
abbrev slv (g n c : Nat) : Value := .slice (some ⟨g, 0, none⟩) n c
abbrev ptv (g j : Nat) : Value := .pointer (some ⟨g, j, none⟩)
section
variable {C : Cx} {T : Sl} {S : Nat → Prop} {vals : List Value} {bss : List (List Nat)} {w : World}
theorem Rep.nm_inv {P : Program} {bs : List Nat} {v u : Value} {e : TypeId} {es : List (List AV)} (h : Rep P S w bs v (.nm u e es)) : v = u ∧ Rep P S w bs u (.own e es) := by
  cases h with
  | nm h => exact ⟨rfl, h⟩
theorem set_same {α : Type} {l : List α} {r : Nat} {x : α} (h : l[r]? = some x) : l.set r x = l := by
  apply List.ext_getElem?
  intro j
  rw [List.getElem?_set]
  split
  · rename_i e; subst e; rw [if_pos (List.getElem?_eq_some_iff.1 h).1, h]
  · rfl
/-- A slot gets its name. -/
theorem Mem.name {r k : Nat} {u : Value} {e : TypeId} {es : List (List AV)} (hm : Mem C T S vals bss w) (hT : T.slots[r]? = some (k, .own e es)) (hv : vals[r]? = some u) :
    Mem C ⟨T.slots.set r (k, .nm u e es), T.ep⟩ S vals bss w ∧ Follows C.P S w T vals S w ⟨T.slots.set r (k, .nm u e es), T.ep⟩ vals := by
  obtain ⟨v, bs, hv', hb, hrep⟩ := hm.slot hT
  obtain rfl : u = v := Option.some.inj (hv.symm.trans hv')
  have := hm.set (k' := k) (ep' := T.ep) hT hv hb (Kept.refl _ w) (.nm hrep) (hm.nodup r bs hb) (fun b h => .inl h) (.inl ⟨rfl, rfl, rfl, (fun e es h => by cases h), (fun b ks h => by cases h)⟩)
  rwa [set_same hv, set_same hb] at this
end
section
variable {C : Cx} {o : Oper} {ev : Operand → AV} {T : Sl}
def OpX (C : Cx) (o : Oper) (ev : Operand → AV) (T : Sl) (p : AV → Sl → Prop) : Prop :=
  ∀ (a : Act) (w : World) (S : Nat → Prop) (vals : List Value) (bss : List (List Nat)), Mem C T S vals bss w → (∀ y ∈ o.op.operands, TmpOK C.P S w T vals (a.eval y) (ev y)) →
    ∀ (K : Act → World → Prop), (∀ x T', p x T' → ∀ v w' S' vals' bss', Mem C T' S' vals' bss' w' → Follows C.P S w T vals S' w' T' vals' → TmpOK C.P S' w' T' vals' v x → K (a.put o.dst v) w') → ∀ Q, o.wp C.P a w K Q
theorem OpJ.x {x : AV} {T' : Sl} (h : OpJ C o ev T x T') : OpX C o ev T fun y T'' => y = x ∧ T'' = T' := fun a w S vals bss hm ho K hK Q =>
  h a w S vals bss hm ho K (fun v w' S' vals' bss' h1 h2 h3 => hK _ _ ⟨rfl, rfl⟩ v w' S' vals' bss' h1 h2 h3) Q
theorem OpX.congr {ev' : Operand → AV} {p : AV → Sl → Prop} (h : OpX C o ev T p) (he : ∀ y ∈ o.op.operands, ev' y = ev y) : OpX C o ev' T p :=
  fun a w S vals bss hm ho => h a w S vals bss hm fun y hy => by rw [← he y hy]; exact ho y hy
/-- All slots are lent to a closure over plain values. -/
def nmB : AV → AV → Prop
  | .nm u e _, x => ∃ es, x = .nm u e es
  | _, _ => False
end
section
variable {C : Cx} {Q : Exit → Sta → Prop} {σ : Sta}
/-- What every state says. -/
theorem AW.pure {c : Code} {p : Prop} (hp : ∀ a w, St C σ a w → p) (h : p → AW C c Q σ) : AW C c Q σ := fun a w hs => h (hp a w hs) a w hs
theorem AWL.pure {ops : Array Oper} {l : List Oper} {p : Prop} (hp : ∀ a w, St C σ a w → p) (h : p → AWL C ops Q l σ) : AWL C ops Q l σ := fun a w hs => h (hp a w hs) a w hs
end
section
variable {C : Cx} {ops : Array Oper} {Q : Exit → Sta → Prop} {Ok : Sl → Prop}
/-- What is known of an operation's guard: t: it is carried out. -/
def Want (ops : Array Oper) (env : Nat → AV) (n : Nat) (o : Oper) (t : Bool) : Prop :=
  (o.guard = none ∧ t = true) ∨ ∃ g p o' d b, o.guard = some (g, p) ∧ ops[g]? = some o' ∧ o'.dst = some d ∧ d < n ∧ env d = .v (.bool b) ∧ t = (b == p)
theorem Want.put {env : Nat → AV} {n : Nat} {oi o : Oper} {t : Bool} {x : AV} (h : Want ops (putE env oi.dst x) n o t) (ha : ∀ d, oi.dst = some d → d ∉ o.looksAt ops) : Want ops env n o t := by
  rcases h with h | ⟨g, p, o', d, b, h1, h2, h3, h4, h5, h6⟩
  · exact .inl h
  · refine .inr ⟨g, p, o', d, b, h1, h2, h3, h4, ?_, h6⟩
    have hne : oi.dst ≠ some d := fun he => ha d he (by simp [Oper.looksAt, h1, h2, h3])
    cases hd : oi.dst with
    | none => rw [hd] at h5; exact h5
    | some q =>
      rw [hd] at h5
      have hqd : ¬ d = q := fun e => hne (by rw [hd, e])
      have h5' : upd env q x d = .v (.bool b) := h5
      unfold upd at h5'
      rwa [if_neg hqd] at h5'
def AX (C : Cx) (ops : Array Oper) (Q : Exit → Sta → Prop) (Ok : Sl → Prop) : Nat → Array Bool → Sta → Prop
  | 0, listed, σ => Region.ready .any ops listed = [] ∧ Q .normal σ
  | f + 1, listed, σ => (Region.ready .any ops listed = [] → Q .normal σ) ∧ ∀ i ∈ Region.ready .any ops listed, ∃ o t, ops[i]? = some o ∧ Want ops σ.env σ.n o t ∧ opsOk o σ.n = true ∧
      (t = true → ∃ p, OpX C o (evA σ.env) σ.T p ∧ ∀ x T', p x T' → Ok T' ∧ AX C ops Q Ok f (listed.setIfInBounds i true) ⟨putE σ.env o.dst x, T', σ.n⟩) ∧
      (t = false → AX C ops Q Ok f (listed.setIfInBounds i true) ⟨putE σ.env o.dst .any, σ.T, σ.n⟩)
theorem AWOp.want {i : Nat} {o : Oper} {K : Sta → Prop} {σ : Sta} {t : Bool} (hi : ops[i]? = some o) (hw : Want ops σ.env σ.n o t) (ho : opsOk o σ.n = true)
    (h1 : t = true → ∃ p, OpX C o (evA σ.env) σ.T p ∧ ∀ x T', p x T' → K ⟨putE σ.env o.dst x, T', σ.n⟩) (h2 : t = false → K ⟨putE σ.env o.dst .any, σ.T, σ.n⟩) : AWOp C ops Q i K σ := by
  intro a w hs K' hK
  have hwt : Region.wanted o (yielded ops a.tmps) = t := by
    rcases hw with ⟨hg, rfl⟩ | ⟨g, p, o', d, b, hg, ho', hd, hdn, hv, rfl⟩
    · simp [Region.wanted, hg]
    · have hb := hs.bool (c := .tmp d) (t := b) (by simpa [noneBig] using hdn) rfl hv
      have hlt : d < a.tmps.size := by obtain ⟨-, hn, -⟩ := hs; rw [hn]; exact hdn
      simp [Act.eval, hlt] at hb
      cases b <;> cases p <;> simp [Region.wanted, hg, yielded, ho', hd, hlt, hb]
  obtain ⟨hd, hn, S, vals, bss, hm, he⟩ := hs
  unfold wpOp
  simp only [hi, hwt]
  cases t with
  | true =>
    obtain ⟨p, hj, h⟩ := h1 rfl
    rw [if_pos rfl]
    exact .inl (hj a w S vals bss hm (St.ops hn he ho) K' (fun x T' hp v w' S' vals' bss' hm' hf hx => hK _ _ _ (h x T' hp) (St.put hd hn he hm' hf hx)) _)
  | false =>
    rw [if_neg (by simp)]
    exact hK _ _ _ (h2 rfl) (St.put hd hn he hm Follows.refl TmpOK.any_)
theorem AX.any : ∀ (f : Nat) (listed : Array Bool) (σ : Sta), AX C ops Q Ok f listed σ → AWAny C ops Q f listed σ
  | 0, _, _, h => AWAny.done h.1 h.2
  | f + 1, listed, σ, h => by
    by_cases hr : Region.ready .any ops listed = []
    · exact AWAny.done hr (h.1 hr)
    · refine AWAny.all rfl hr fun i hi => ?_
      obtain ⟨o, t, h1, h2, h3, h4, h5⟩ := h.2 i hi
      exact AWOp.want h1 h2 h3 (fun ht => by obtain ⟨p, hp, hk⟩ := h4 ht; exact ⟨p, hp, fun x T' hx => AX.any f _ _ (hk x T' hx).2⟩) fun ht => AX.any f _ _ (h5 ht)
theorem AX.first {i : Nat} {oi : Oper} {x : AV} {n : Nat} {ev0 : Operand → AV} (hi : ops[i]? = some oi) (hg : oi.guard = none) (hok : opsOk oi n = true) (hj : ∀ T', Ok T' → OpJ C oi ev0 T' x T') :
    ∀ (f : Nat) (listed : Array Bool) (env : Nat → AV) (T : Sl),
      (∀ j oj, ops[j]? = some oj → j ≠ i → listed.getD j true = false → (∀ e ∈ oj.after, Region.binds .any e = true → e.on ≠ i) → oi.apart ops oj = true) →
      i ∈ Region.ready .any ops listed → (∀ y ∈ oi.op.operands, evA env y = ev0 y) → Ok T →
      AX C ops Q Ok f (listed.setIfInBounds i true) ⟨putE env oi.dst x, T, n⟩ → AX C ops Q Ok (f + 1) listed ⟨env, T, n⟩ := by
  intro f
  have self : ∀ (f : Nat) (listed : Array Bool) (env : Nat → AV) (T : Sl), (∀ y ∈ oi.op.operands, evA env y = ev0 y) → Ok T → AX C ops Q Ok f (listed.setIfInBounds i true) ⟨putE env oi.dst x, T, n⟩ →
      ∃ o t, ops[i]? = some o ∧ Want ops env n o t ∧ opsOk o n = true ∧ (t = true → ∃ p, OpX C o (evA env) T p ∧ ∀ x T', p x T' → Ok T' ∧ AX C ops Q Ok f (listed.setIfInBounds i true) ⟨putE env o.dst x, T', n⟩) ∧ (t = false → AX C ops Q Ok f (listed.setIfInBounds i true) ⟨putE env o.dst .any, T, n⟩) :=
    fun f listed env T hev hT H => ⟨oi, true, hi, .inl ⟨hg, rfl⟩, hok, fun _ => ⟨_, ((hj T hT).congr hev).x, by rintro y T' ⟨rfl, rfl⟩; exact ⟨hT, H⟩⟩, fun h => by cases h⟩
  induction f with
  | zero =>
    intro listed env T _ hr hev hT H
    refine ⟨fun h => (by rw [h] at hr; cases hr), fun j hjr => ?_⟩
    by_cases hji : j = i
    · subst hji; exact self 0 listed env T hev hT H
    · have := ready_mono hjr hji
      rw [H.1] at this
      cases this
  | succ f ih =>
    intro listed env T hfree hr hev hT H
    have hun := (mem_ready.1 hr).1
    refine ⟨fun h => (by rw [h] at hr; cases hr), fun j hjr => ?_⟩
    by_cases hji : j = i
    · subst hji; exact self (f + 1) listed env T hev hT H
    · obtain ⟨oj, t, h1, h2, h3, h4, h5⟩ := H.2 j (ready_mono hjr hji)
      obtain ⟨hjun, oj', hoj, hall⟩ := mem_ready.1 hjr
      have : oj' = oj := Option.some.inj (hoj.symm.trans h1)
      subst this
      have hnot : ∀ e ∈ oj'.after, Region.binds .any e = true → e.on ≠ i := fun e he hb heq => by
        have h1 := hall e he hb
        rw [heq, getD_both hun] at h1
        cases h1
      obtain ⟨a1, a2, a3⟩ := Oper.apart_spec (hfree j oj' hoj hji hjun hnot)
      have hfree' : ∀ k ok, ops[k]? = some ok → k ≠ i → (listed.setIfInBounds j true).getD k true = false → (∀ e ∈ ok.after, Region.binds .any e = true → e.on ≠ i) → oi.apart ops ok = true := fun k ok hk hki hun hno => by
        refine hfree k ok hk hki ?_ hno
        by_cases hjk : j = k
        · subst hjk; exact hjun
        · rw [getD_set_ne true hjk] at hun; exact hun
      have step : ∀ (y : AV) (T' : Sl), Ok T' → AX C ops Q Ok f ((listed.setIfInBounds i true).setIfInBounds j true) ⟨putE (putE env oi.dst x) oj'.dst y, T', n⟩ → AX C ops Q Ok (f + 1) (listed.setIfInBounds j true) ⟨putE env oj'.dst y, T', n⟩ := fun y T' h6 h7 => by
        refine ih _ _ _ hfree' (ready_mono hr (Ne.symm hji)) (fun q hq => (evA_put a3 q hq).trans (hev q hq)) h6 ?_
        rw [Array.setIfInBounds_comm _ _ hji]
        rw [putE_comm (fun t ht ht' => a2 t ht ht')] at h7
        exact h7
      refine ⟨oj', t, h1, h2.put a1, h3, fun ht => ?_, fun ht => step _ _ hT (h5 ht)⟩
      obtain ⟨p, hp, hk⟩ := h4 ht
      exact ⟨p, hp.congr fun q hq => (evA_put a1 q hq).symm, fun y T' hy => ⟨(hk y T' hy).1, step _ _ (hk y T' hy).1 (hk y T' hy).2⟩⟩
end
section
variable {C : Cx} {Q : Exit → Sta → Prop} {ops : Array Oper} {Ok : Sl → Prop} {fuel : Nat} {listed : Array Bool} {o : Oper} {env : Nat → AV} {T T' : Sl} {n : Nat} {x : AV} {p : AV → Sl → Prop}
/-- What is to be shown of an operation that may come next. -/
def AXi (C : Cx) (ops : Array Oper) (Q : Exit → Sta → Prop) (Ok : Sl → Prop) (fuel : Nat) (listed : Array Bool) (env : Nat → AV) (T : Sl) (n i : Nat) : Prop :=
  ∃ o t, ops.toList[i]? = some o ∧ Want ops env n o t ∧ opsOk o n = true ∧ (t = true → ∃ p, OpX C o (evA env) T p ∧ ∀ x T', p x T' → Ok T' ∧ AX C ops Q Ok fuel (listed.setIfInBounds i true) ⟨putE env o.dst x, T', n⟩) ∧
    (t = false → AX C ops Q Ok fuel (listed.setIfInBounds i true) ⟨putE env o.dst .any, T, n⟩)
theorem AXi.mk {i : Nat} (hi : ops.toList[i]? = some o) (hj : OpX C o (evA env) T p) (h : ∀ x T', p x T' → Ok T' ∧ AX C ops Q Ok fuel (listed.setIfInBounds i true) ⟨putE env o.dst x, T', n⟩) (hg : o.guard = none := by rfl) (ho : opsOk o n = true := by rfl) : AXi C ops Q Ok fuel listed env T n i := ⟨o, true, hi, .inl ⟨hg, rfl⟩, ho, fun _ => ⟨p, hj, h⟩, fun h => by cases h⟩
theorem AXi.no {i : Nat} {o' : Oper} (g d : Nat) {b : Bool} (hi : ops.toList[i]? = some o) (h : AX C ops Q Ok fuel (listed.setIfInBounds i true) ⟨putE env o.dst .any, T, n⟩) (hv : env d = .v (.bool b)) (hg : o.guard = some (g, !b)) (ho' : ops.toList[g]? = some o') (hd : o'.dst = some d) (hdn : Nat.ble (d + 1) n = true) (ho : opsOk o n = true := by rfl) : AXi C ops Q Ok fuel listed env T n i :=
  ⟨o, false, hi, .inr ⟨g, !b, o', d, b, hg, atL ho', hd, Nat.le_of_ble_eq_true hdn, hv, by cases b <;> rfl⟩, ho, fun h => (by cases h), fun _ => h⟩
theorem AXi.ready {i : Nat} (hne : Region.ready .any ops listed ≠ []) (h : AXi C ops Q Ok fuel listed env T n i) : ∃ o t, ops[i]? = some o ∧ Want ops env n o t ∧ opsOk o n = true ∧ (t = true → ∃ p, OpX C o (evA env) T p ∧ ∀ x T', p x T' → Ok T' ∧ AX C ops Q Ok fuel (listed.setIfInBounds i true) ⟨putE env o.dst x, T', n⟩) ∧
    (t = false → AX C ops Q Ok fuel (listed.setIfInBounds i true) ⟨putE env o.dst .any, T, n⟩) := by
  obtain ⟨o, t, h1, h2⟩ := h
  exact ⟨o, t, atL h1, h2⟩
end
end Go.Proofs.Ytmihcabjoodogaa
namespace Go.Proofs.Ytmihcabjoodogaa
open Go.RowKit
set_option linter.unusedSimpArgs false
set_option linter.unusedVariables false
set_option linter.unusedSectionVars false
def nmE (u : Value) (e : TypeId) (es : List (List AV)) : AV := if es = [] then .any else .nm u e es
section
variable {C : Cx} {o : Oper} {ev : Operand → AV} {T : Sl}
end
section
variable {C : Cx} {σ : Sta}
end
end Go.Proofs.Ytmihcabjoodogaa
namespace Go.Proofs.Ytmihcabjoodogaa
open Go.RowKit
set_option linter.unusedSimpArgs false
set_option linter.unusedVariables false
set_option linter.unusedSectionVars false
section
variable {C : Cx} {o : Oper} {ev : Operand → AV} {T : Sl}
theorem RefOK.repA {P : Program} {S : Nat → Prop} {w : World} {T : Sl} {vals : List Value} {u : Value} {x : AV} (h : RefOK P S w T vals u x) (hx : repA x = true) : Rep P S w [] u x := by
  cases x <;> first | exact h | cases hx
end
end Go.Proofs.Ytmihcabjoodogaa
namespace Go.Proofs.Ytmihcabjoodogaa
open Go.RowKit
set_option linter.unusedSimpArgs false
set_option linter.unusedVariables false
section
variable {C : Cx} {ops : Array Oper} {Q : Exit → Sta → Prop} {Ok : Sl → Prop} {k : Nat}
variable {fuel : Nat} {listed : Array Bool} {env : Nat → AV} {T : Sl} {n : Nat}
end
section
variable {C : Cx} {o : Oper} {ev : Operand → AV} {T : Sl} {σ : Sta}
/-- A named slice's length. -/
theorem St.len {a : Act} {w : World} (hs : St C σ a w) {r k n : Nat} {u : Value} {e : TypeId} {es : List (List AV)} (hT : σ.T.slots[r]? = some (k, .nm u e es)) (hn : es.length = n) : ∃ A c, u = .slice A n c := by
  subst hn
  obtain ⟨hd, hn, S, vals, bss, hm, he⟩ := hs
  obtain ⟨v, bs, hv, hb, hrep⟩ := hm.slot hT
  obtain ⟨rfl, hr⟩ := hrep.nm_inv
  obtain ⟨us, sz, bss, -, -, -, hown, -⟩ := hr.own_inv
  rcases hown.2 with ⟨h1, h0'⟩ | ⟨g, cap, cur, rfl, -⟩
  · exact ⟨none, 0, by rw [h1, h0']⟩
  · exact ⟨_, _, rfl⟩
end
section
variable {C : Cx} {σ : Sta}
end
end Go.Proofs.Ytmihcabjoodogaa
namespace Go.Proofs.Ytmihcabjoodogaa
open Go.RowKit
set_option linter.unusedSimpArgs false
set_option linter.unusedVariables false
section
variable {C : Cx} {o : Oper} {ev : Operand → AV} {T : Sl}
theorem RL.take {α β : Type} {R : α → β → Prop} {us : List α} {xs : List β} (h : RL R us xs) (n : Nat) : RL R (us.take n) (xs.take n) := by
  refine ⟨by rw [List.length_take, List.length_take, h.1], fun i u x hu hx => ?_⟩
  rw [List.getElem?_take] at hu hx
  split at hu
  · rename_i hi
    rw [if_pos hi] at hx
    exact h.2 i u x hu hx
  · cases hu
end
end Go.Proofs.Ytmihcabjoodogaa
namespace Go.Proofs.Ytmihcabjoodogaa
open Go.RowKit
set_option linter.unusedSimpArgs false
set_option linter.unusedVariables false
section
variable {C : Cx} {o : Oper} {ev : Operand → AV} {T : Sl}
end
section
variable {C : Cx} {T : Sl} {S : Nat → Prop} {vals : List Value} {bss : List (List Nat)} {w : World}
variable {o : Oper} {ev : Operand → AV}
end
end Go.Proofs.Ytmihcabjoodogaa
namespace Go.Proofs.Ytmihcabjoodogaa
open Go.RowKit
set_option linter.unusedSimpArgs false
set_option linter.unusedVariables false
section
variable {C : Cx} {T : Sl} {S : Nat → Prop} {vals : List Value} {bss : List (List Nat)} {w : World} {o : Oper} {ev : Operand → AV}
/-- What an argument is seen as while a named slice is lent for reading. -/
inductive ViewN (T : Sl) (r k : Nat) (u : Value) (e : TypeId) (es : List (List AV)) : AV → AV → Prop
  | base {y x} (h : View T true y x) : ViewN T r k u e es y x
  | up {f : FuncId} {c : AV} (hc : nref1 c = true) : ViewN T r k u e es (.agg [.clo f [.rop [.v u]], c]) (.agg [.clo f [.rop [.ro es]], c])
end
section
open Go.Sort
variable {α : Type} {enc : α → List Value} {k : Nat}
def rowK (enc : α → List Value) (x : α) : List AV := (enc x).map .v
variable [Inhabited α]
end
section
open Go.Sort
variable {C : Cx} {o : Oper} {ev : Operand → AV} {T : Sl} {α : Type} [Inhabited α] {enc : α → List Value} {k : Nat}
end
end Go.Proofs.Ytmihcabjoodogaa
namespace Go.Proofs.Ytmihcabjoodogaa
open Go.RowKit
set_option linter.unusedSimpArgs false
set_option linter.unusedVariables false
section
variable {C : Cx} {o : Oper} {ev : Operand → AV} {T : Sl} {t yt : TypeId} {p q : Operand} {k k' : IntKind} {x y z : Int}
theorem op_shl (ho : o.op = .binOp .shl t p q yt) (hp : ev p = .v (.int k x)) (hq : ev q = .v (.int k' y)) (h0 : 0 ≤ y) (hz : k.wrap (x * 2 ^ (min y.toNat k.bits)) = z) : OpP C o ev T (.v (.int k z)) :=
  op_bin ho hp hq (fun w => by unfold eqGuard; simp) (fun w => by simp [binOp, Op.shift, hz, show ¬ y < 0 by omega]) rfl
theorem op_or (ho : o.op = .binOp .or t p q yt) (hp : ev p = .v (.int k x)) (hq : ev q = .v (.int k y)) (hz : k.wrap ((BitVec.ofInt k.bits x ||| BitVec.ofInt k.bits y).toNat) = z) : OpP C o ev T (.v (.int k z)) :=
  op_bin ho hp hq (eqGuard_int _ _ _ _ _ _ _) (fun w => by simp only [binOp, Op.intBits, hz, ne_eq, not_true_eq_false, if_false]; rfl) rfl
end
theorem nat_or (k a b : Nat) (ha : a % 2 ^ k = 0) (hb : b < 2 ^ k) : a ||| b = a + b := by
  have h := Nat.two_pow_add_eq_or_of_lt hb (a / 2 ^ k)
  have e : 2 ^ k * (a / 2 ^ k) = a := Nat.mul_div_cancel' (Nat.dvd_of_mod_eq_zero ha)
  rw [e] at h
  exact h.symm
theorem ofInt_nat (a : Nat) (ha : a < 9223372036854775808) : (BitVec.ofInt 64 (a : Int)).toNat = a := by
  rw [BitVec.ofInt_natCast, BitVec.toNat_ofNat]; exact Nat.mod_eq_of_lt (by omega)
theorem or_add (k a b : Nat) (ha : a % 2 ^ k = 0) (hb : b < 2 ^ k) (h : a + b < 9223372036854775808) : IntKind.i64.wrap ((BitVec.ofInt IntKind.i64.bits (a : Int) ||| BitVec.ofInt IntKind.i64.bits (b : Int)).toNat) = ((a + b : Nat) : Int) := by
  show IntKind.i64.wrap ((BitVec.ofInt 64 (a : Int) ||| BitVec.ofInt 64 (b : Int)).toNat) = _
  rw [BitVec.toNat_or, ofInt_nat a (by omega), ofInt_nat b (by omega), nat_or k a b ha hb, IntKind.wrap_i64]
  omega
end Go.Proofs.Ytmihcabjoodogaa
namespace Go.Proofs.Ytmihcabjoodogaa
open Go.RowKit
set_option linter.unusedSimpArgs false
set_option linter.unusedVariables false
section
variable {C : Cx} {o : Oper} {ev : Operand → AV} {T : Sl}
theorem op_b2sR {src dst e2 : TypeId} {y : Operand} {l : List UInt8} {s : ByteArray} (ho : o.op = .convert src dst y) (hy : ev y = .ro (l.map fun b => [.v (.int .u8 (b.toNat : Nat))])) (hs : C.P.underlying src = some (.slice e2)) (he : C.P.underlying e2 = some (.int .u8)) (hd : C.P.underlying dst = some .string) (hsl : (⟨l.toArray⟩ : ByteArray) = s) : OpR C o ev T (.v (.string s)) := by
  subst hsl
  intro a w S vals bss hm h
  have h1 := h y (by simp [ho, Op.operands])
  rw [hy] at h1
  obtain ⟨-, A, c, sz, us, hv, h2, h3, h4, h5, h6, h7⟩ := Rep.ro_inv h1
  have hfl : ∀ l : List UInt8, (l.map fun b => [AV.v (.int .u8 (b.toNat : Nat))]).flatten = l.map fun b => AV.v (.int .u8 (b.toNat : Nat)) := fun l => by
    induction l with
    | nil => rfl
    | cons b l ih => simp [ih]
  rw [hfl, List.length_map] at h6
  rw [hfl] at h7
  rw [List.length_map] at hv h2
  refine ⟨.string ⟨l.toArray⟩, fun w' hk => ?_, TmpOK.v_ rfl⟩
  cases A with
  | none =>
    have hl : l = [] := by
      cases l with
      | nil => rfl
      | cons b l =>
        obtain ⟨g, o', e, _⟩ := h5 (by rw [h6]; simp)
        cases e
    subst hl
    have hrun := run_convert_bytes_nil (P := C.P) (w := w') src e2 hs he 0 c dst hd
    have hv' : a.eval y = .slice none 0 c := hv
    simp [execOp, ho, hv', hrun]
    rfl
  | some A =>
    have hrun := run_convert_bytes_back (P := C.P) w' src dst e2 A c l hs he hd (fun j hj => by
      obtain ⟨g, o', e, hg, hc⟩ := h5 (by omega)
      cases e
      have hu := List.getElem?_eq_getElem (l := us) (i := j) (by omega)
      have hx := (h7 j _ (.v (.int .u8 (l[j].toNat : Nat))) hu (by simp [hj])).v_inv.1
      have h8 := hc j _ hu
      rw [hx] at h8
      have := hk.cell h8 trivial
      simpa [add_off] using this)
    simp [execOp, ho, hv, hrun]
end
end Go.Proofs.Ytmihcabjoodogaa
namespace Go.Proofs.Ytmihcabjoodogaa
open Go.RowKit
set_option linter.unusedSimpArgs false
set_option linter.unusedVariables false
section
variable {C : Cx} {T : Sl} {S S2 : Nat → Prop} {vals : List Value} {bss : List (List Nat)} {w w' : World}
variable {o : Oper} {ev : Operand → AV}
end
end Go.Proofs.Ytmihcabjoodogaa
namespace Go.Proofs.Ytmihcabjoodogaa
open Go.RowKit
set_option linter.unusedSimpArgs false
set_option linter.unusedVariables false
end Go.Proofs.Ytmihcabjoodogaa
namespace Go.Proofs.Ytmihcabjoodogaa
open Go.RowKit
set_option linter.unusedSimpArgs false
set_option linter.unusedVariables false
abbrev strRows (s : ByteArray) : List (List AV) := s.data.toList.map fun b => [.v (.int .u8 (b.toNat : Nat))]
section
variable {C : Cx} {o : Oper} {ev : Operand → AV} {T : Sl}
end
end Go.Proofs.Ytmihcabjoodogaa
namespace Go.Proofs.Ytmihcabjoodogaa
open Go.RowKit
set_option linter.unusedSimpArgs false
set_option linter.unusedVariables false
def vCell (es : List (List AV)) : Prop := ∀ x ∈ es, ∀ c ∈ x, ∃ u, c = .v u
section
variable {C : Cx} {T : Sl} {S S2 : Nat → Prop} {vals : List Value} {bss : List (List Nat)} {w w' : World} {o : Oper} {ev : Operand → AV}
variable {Q : Exit → Sta → Prop} {σ : Sta}
end
end Go.Proofs.Ytmihcabjoodogaa
namespace Go.Proofs.Ytmihcabjoodogaa
open Go.RowKit
set_option linter.unusedSimpArgs false
set_option linter.unusedVariables false
end Go.Proofs.Ytmihcabjoodogaa
namespace Go.Proofs.Ytmihcabjoodogaa
open Go.RowKit
set_option linter.unusedSimpArgs false
set_option linter.unusedVariables false
theorem op_slice3_full {C : Cx} {o : Oper} {ev : Operand → AV} {T : Sl} {t e : TypeId} {y q2 q3 : Operand} {es : List (List AV)} {sz n : Nat} {k2 k3 : IntKind} (ho : o.op = .slice t y none (some q2) (some q3)) (hy : ev y = .ro es) (h2 : ev q2 = .v (.int k2 (n : Int))) (h3 : ev q3 = .v (.int k3 (n : Int))) (hn : n = es.length)
    (ht : C.P.underlying t = some (.slice e)) (hs : sizeIs C.P e sz) : OpP C o ev T (.rof es) := by
  subst hn
  intro a w S vals bss hm h
  have h0 := h y (by simp [ho, Op.operands])
  have g2 := h q2 (by simp [ho, Op.operands])
  have g3 := h q3 (by simp [ho, Op.operands])
  rw [hy] at h0
  rw [h2] at g2; rw [h3] at g3
  obtain ⟨-, A, c, sz', us, e1, c1, c2, c3, c4, c5, c6⟩ := (show Rep C.P S w [] (a.eval y) (.ro es) from h0).ro_inv
  have hb : ∀ w', (Instr.sliceBounds true es.length c none (some (a.eval q2)) (some (a.eval q3))).run C.P w' = .ok (0, es.length, es.length) w' := fun w' => by
    rw [TmpOK.v g2, TmpOK.v g3]
    simp [Instr.sliceBounds, Instr.sliceBound, asIntOf, c1, Nat.max_eq_left]
  refine ⟨_, fun w' => by simp only [execOp, ho, e1, Sem.run_bind, Option.map_some, Option.map_none, run_slice_ ht hs w' (hb w'), Result.andThen_ok, Sem.run_pure]; rfl, ?_⟩
  have hA : (if es.length = 0 then A else A.map (·.add (0 * sz))) = A := by
    split
    · rfl
    · rw [Nat.zero_mul]
      cases A with
      | none => rfl
      | some x => obtain ⟨g, oo, p⟩ := x; simp [Addr.add]
  show Rep C.P S w [] (.slice (if es.length = 0 then A else A.map (·.add (0 * sz))) (es.length - 0) (es.length - 0)) (.rof es)
  rw [hA, Nat.sub_zero]
  exact .rof (Nat.le_trans c1 c2) c3 c4 c5 c6
end Go.Proofs.Ytmihcabjoodogaa
namespace Go.Proofs.Ytmihcabjoodogaa
open Go.RowKit
set_option linter.unusedSimpArgs false
set_option linter.unusedVariables false
section
variable {C : Cx} {o : Oper} {ev : Operand → AV} {T : Sl} {t yt : TypeId} {p q : Operand} {k k' : IntKind} {x y z : Int}
theorem op_bxor (ho : o.op = .binOp .xor t p q yt) (hp : ev p = .v (.int k x)) (hq : ev q = .v (.int k y)) (hz : bits .xor k x y = z) : OpP C o ev T (.v (.int k z)) :=
  op_bin ho hp hq (eqGuard_int _ _ _ _ _ _ _) (fun w => by simp only [binOp, Op.intBits, ← hz, ne_eq, not_true_eq_false, if_false]; rfl) rfl
theorem op_xor32 {a b : UInt32} (ho : o.op = .binOp .xor t p q yt) (hp : ev p = .v (.int .u32 (a.toNat : Int))) (hq : ev q = .v (.int .u32 (b.toNat : Int))) : OpP C o ev T (.v (.int .u32 ((a ^^^ b).toNat : Int))) :=
  op_bxor ho hp hq (by rw [u32_xor_nat _ _ a.toNat_lt b.toNat_lt]; simp)
theorem op_xor8 {a b : UInt8} (ho : o.op = .binOp .xor t p q yt) (hp : ev p = .v (.int .u8 (a.toNat : Int))) (hq : ev q = .v (.int .u8 (b.toNat : Int))) : OpP C o ev T (.v (.int .u8 ((a ^^^ b).toNat : Int))) :=
  op_bxor ho hp hq (by rw [u8_xor_nat _ _ a.toNat_lt b.toNat_lt]; simp)
theorem op_uxor (ho : o.op = .unOp .xor t p) (hp : ev p = .v (.int k x)) (hs : k.signed = false) (hz : bits .xor k k.max x = z) : OpP C o ev T (.v (.int k z)) :=
  op_un ho hp (fun w => by simp only [Op.unary, hs, Op.intBits, ← hz, if_false, Bool.false_eq_true]; rfl) rfl
theorem op_not32 {a : UInt32} (ho : o.op = .unOp .xor t p) (hp : ev p = .v (.int .u32 (a.toNat : Int))) : OpP C o ev T (.v (.int .u32 ((~~~ a).toNat : Int))) :=
  op_uxor ho hp rfl (by
    have h := u32_xor_nat 4294967295 a.toNat (by omega) a.toNat_lt
    have e : (4294967295 : Nat) ^^^ a.toNat = (~~~ a).toNat := by
      have h2 : (~~~ a) = 4294967295 ^^^ a := by
        rw [← UInt32.neg_one_xor]; rfl
      rw [h2, UInt32.toNat_xor]; rfl
    rw [e] at h
    exact h)
theorem op_not8 {a : UInt8} (ho : o.op = .unOp .xor t p) (hp : ev p = .v (.int .u8 (a.toNat : Int))) : OpP C o ev T (.v (.int .u8 ((~~~ a).toNat : Int))) :=
  op_uxor ho hp rfl (by
    have h := u8_xor_nat 255 a.toNat (by omega) a.toNat_lt
    have e : (255 : Nat) ^^^ a.toNat = (~~~ a).toNat := by
      have h2 : (~~~ a) = 255 ^^^ a := by
        rw [← UInt8.neg_one_xor]; rfl
      rw [h2, UInt8.toNat_xor]; rfl
    rw [e] at h
    exact h)
theorem op_shrN {n : Nat} {a : Nat} (ho : o.op = .binOp .shr t p q yt) (hp : ev p = .v (.int k (a : Int))) (hq : ev q = .v (.int k' (n : Int))) (hn : n ≤ k.bits) : OpP C o ev T (.v (.int k ((a / 2 ^ n : Nat) : Int))) :=
  op_shr ho hp hq (by omega) (by
    rw [Int.toNat_natCast, Nat.min_eq_left hn, Int.fdiv_eq_ediv_of_nonneg _ (by exact_mod_cast Nat.zero_le _)]
    exact_mod_cast rfl)
theorem op_shr32 {a b : UInt32} {n : Int} (m : Nat) (ho : o.op = .binOp .shr t p q yt) (hp : ev p = .v (.int .u32 (a.toNat : Int))) (hq : ev q = .v (.int k' n)) (hn : n = (m : Int)) (hm : m ≤ 32) (hb : b.toNat = a.toNat / 2 ^ m) : OpP C o ev T (.v (.int .u32 (b.toNat : Int))) := by
  rw [hb]; subst hn; exact op_shrN ho hp hq hm
theorem op_and1 {a : UInt32} (ho : o.op = .binOp .and t p q yt) (hp : ev p = .v (.int .u32 (a.toNat : Int))) (hq : ev q = .v (.int .u32 1)) : OpP C o ev T (.v (.int .u32 ((a.toNat % 2 : Nat) : Int))) :=
  op_and ho hp hq (by
    have := u32_and_nat a.toNat 1 a.toNat_lt (by omega)
    rw [show ((1 : Nat) : Int) = 1 from rfl] at this
    rw [nat_mask1] at this
    exact this)
theorem op_c328 {s d : TypeId} {a : UInt32} {sd : TypeDesc} (ho : o.op = .convert s d p) (hp : ev p = .v (.int .u32 (a.toNat : Int))) (hs : C.P.underlying s = some sd) (hd : C.P.underlying d = some (.int .u8)) : OpP C o ev T (.v (.int .u8 (a.toUInt8.toNat : Int))) :=
  op_conv ho hp hs hd (by
    show IntKind.wrap .u8 _ = _
    unfold IntKind.wrap
    simp [IntKind.bits, IntKind.signed])
/-- The address of an element (of one cell) of an array that is only read. -/
theorem op_ia_rarr {e : TypeId} {y : Operand} {kk : IntKind} {n : Int} {len : Nat} {cs : List AV} {v : AV} (m : Nat) (ho : o.op = .indexAddr t y q) (hy : ev y = .rop cs) (hi : ev q = .v (.int kk n)) (ht : C.P.underlying t = some (.array len e)) (hn : n = (m : Int)) (hm : m < len) (hs : sizeIs C.P e 1) (hx : cs[m]? = some v) : OpP C o ev T (.rop [v]) := by
  intro a w S vals bss hme h
  have h1 := h y (by simp [ho, Op.operands])
  have h2 := h q (by simp [ho, Op.operands])
  rw [hi] at h2
  rw [hy] at h1
  obtain ⟨-, A, us, e', hr, hl, hc⟩ := (show Rep C.P S w [] _ (.rop cs) from h1).rop_inv
  have hml := (List.getElem?_eq_some_iff.1 hx).1
  obtain ⟨g, o', hA, hS, hcell⟩ := hr (by omega)
  injection hA with hA; subst hA
  have hee := elem_eqA ht
  subst hn
  have hlt : (m : Int) < (len : Int) := by omega
  have hu : us[m]? = some (us[m]'(by omega)) := List.getElem?_eq_getElem _
  refine ⟨.pointer (some ⟨g, o' + m, none⟩), fun w => ?_, ?_⟩
  · simp [execOp, ho, e', h2.v, run_indexAt_array w t _ _ _ (by rw [hee.1, hee.2]; exact ht), hlt, hee.1, hee.2, run_sizeOf hs, add_off]
  · refine Rep.rop (us := [us[m]'(by omega)]) (fun _ => ⟨g, o' + m, rfl, hS, fun j u hj => ?_⟩) rfl fun i u x' hj hx' => ?_
    · cases j with
      | zero => simp at hj; subst hj; exact hcell m _ hu
      | succ j => simp at hj
    · cases i with
      | zero => simp at hj hx'; subst hj; subst hx'; exact hc m _ _ hu hx
      | succ i => simp at hj
end
end Go.Proofs.Ytmihcabjoodogaa
namespace Go.Proofs.Ytmihcabjoodogaa
open Go.RowKit
set_option linter.unusedSimpArgs false
set_option linter.unusedVariables false
set_option maxRecDepth 100000
theorem sz2 : sizeIs Try.prog 2 1 := by unfold sizeIs; kernel_rfl
theorem sz3 : sizeIs Try.prog 3 1 := by unfold sizeIs; kernel_rfl
theorem ag3 : aggB Try.prog 3 = some false := by kernel_rfl
theorem ze3 : zeroIs Try.prog 3 (.int .i64 0) 1 8 := ⟨by kernel_rfl, rfl, by simp [Value.cells, Value.oneCell']⟩
theorem sz5 : sizeIs Try.prog 5 1 := by unfold sizeIs; kernel_rfl
theorem ag5 : aggB Try.prog 5 = some false := by kernel_rfl
theorem ze5 : zeroIs Try.prog 5 (.int .u8 0) 1 1 := ⟨by kernel_rfl, rfl, by simp [Value.cells, Value.oneCell']⟩
theorem sz22 : sizeIs Try.prog 22 1 := by unfold sizeIs; kernel_rfl
theorem ag22 : aggB Try.prog 22 = some false := by kernel_rfl
theorem ze22 : zeroIs Try.prog 22 (.slice none 0 0) 1 24 := ⟨by kernel_rfl, rfl, by simp [Value.cells, Value.oneCell']⟩
theorem sz23 : sizeIs Try.prog 23 1 := by unfold sizeIs; kernel_rfl
theorem ag23 : aggB Try.prog 23 = some false := by kernel_rfl
theorem sz40 : sizeIs Try.prog 40 2 := by unfold sizeIs; kernel_rfl
theorem ze40 : zeroIs Try.prog 40 (.agg #[.slice none 0 0, .int .i64 0]) 2 32 := ⟨by kernel_rfl, rfl, by simp [Value.cells, Value.oneCell']⟩
theorem fl40_0 : fieldIs Try.prog 40 0 0 23 := ⟨_, _, Try.underlying40, rfl, rfl, rfl⟩
theorem fl40_1 : fieldIs Try.prog 40 1 1 3 := ⟨_, _, Try.underlying40, rfl, rfl, rfl⟩
theorem sz44 : sizeIs Try.prog 44 1 := by unfold sizeIs; kernel_rfl
theorem ag44 : aggB Try.prog 44 = some false := by kernel_rfl
theorem sz49 : sizeIs Try.prog 49 256 := by unfold sizeIs; kernel_rfl
theorem ag49 : aggB Try.prog 49 = some true := by kernel_rfl
end Go.Proofs.Ytmihcabjoodogaa
namespace Go.Proofs.Ytmihcabjoodogaa
open Go.RowKit
set_option linter.unusedSimpArgs false
set_option linter.unusedVariables false
set_option maxRecDepth 100000
theorem mix : Try.prog.follows .mixedOrders = true := by kernel_rfl
theorem en4 : Enters Try.prog 4 := fun vs w => by kernel_rfl
theorem en5 : Enters Try.prog 5 := fun vs w => by kernel_rfl
theorem en6 : Enters Try.prog 6 := fun vs w => by kernel_rfl
theorem en7 : Enters Try.prog 7 := fun vs w => by kernel_rfl
theorem en8 : Enters Try.prog 8 := fun vs w => by kernel_rfl
theorem en9 : Enters Try.prog 9 := fun vs w => by kernel_rfl
theorem en10 : Enters Try.prog 10 := fun vs w => by kernel_rfl
theorem en11 : Enters Try.prog 11 := fun vs w => by kernel_rfl
theorem en12 : Enters Try.prog 12 := fun vs w => by kernel_rfl
theorem en13 : Enters Try.prog 13 := fun vs w => by kernel_rfl
theorem en14 : Enters Try.prog 14 := fun vs w => by kernel_rfl
theorem en15 : Enters Try.prog 15 := fun vs w => by kernel_rfl
theorem en16 : Enters Try.prog 16 := fun vs w => by kernel_rfl
theorem en17 : Enters Try.prog 17 := fun vs w => by kernel_rfl
theorem en18 : Enters Try.prog 18 := fun vs w => by kernel_rfl
theorem en19 : Enters Try.prog 19 := fun vs w => by kernel_rfl
theorem en20 : Enters Try.prog 20 := fun vs w => by kernel_rfl
theorem en21 : Enters Try.prog 21 := fun vs w => by kernel_rfl
theorem en22 : Enters Try.prog 22 := fun vs w => by kernel_rfl
theorem en23 : Enters Try.prog 23 := fun vs w => by kernel_rfl
theorem en24 : Enters Try.prog 24 := fun vs w => by kernel_rfl
theorem en25 : Enters Try.prog 25 := fun vs w => by kernel_rfl
theorem en26 : Enters Try.prog 26 := fun vs w => by kernel_rfl
theorem en27 : Enters Try.prog 27 := fun vs w => by kernel_rfl
theorem en28 : Enters Try.prog 28 := fun vs w => by kernel_rfl
theorem en29 : Enters Try.prog 29 := fun vs w => by kernel_rfl
theorem en30 : Enters Try.prog 30 := fun vs w => by kernel_rfl
theorem pl40 : plIs Try.prog 40 [(0, 1), (1, 1)] := ⟨_, Try.underlying40, by kernel_rfl⟩
theorem get_mapD {α β : Type} [Inhabited α] {f : α → β} {xs : List α} {m : Nat} (h : m < xs.length) : (xs.map f)[m]? = some (f (xs.getD m default)) := by
  rw [List.getD_eq_getElem?_getD]; simp [h]
abbrev iv (n : Int) : List AV := [.v (.int .i64 n)]
abbrev srcRow (l : List Int) (k : Nat) : List AV := [.ro (l.map iv), .v (.int .i64 (k : Nat))]
theorem iv_len (l : List Int) : ∀ x ∈ l.map iv, x.length = 1 := fun x hx => by
  obtain ⟨p, _, rfl⟩ := List.mem_map.1 hx; rfl
theorem one_out {T : Sl} {x : AV} (h : T.slots[0]? = some (0, x)) : ∀ (r : Nat) (y : AV), [x][r]? = some y → T.slots[r]? = some (0, y) := fun r y hy => by
  cases r with
  | zero => simp at hy; subst hy; exact h
  | succ r => simp at hy
theorem C4 {l : List Int} : FnB Try.prog 4 [.ro (l.map iv)] 40 (srcRow (l.take 2000) 0) := by
  refine FnB.body Try.func4 rfl Try.ntmps4 (by simp) sz40 ?_; intro S0 own0 v0 w0
  (refine AW.seq_k ?_; intro K hK)
  refine AW.region ?_
  refine awP (op_assign rfl rfl) ?_; (try simp only [nA, Nat.reduceBEq, Nat.reduceEqDiff, ↓reduceIte, Nat.reduceAdd, Nat.reduceSub])
  refine AWL.nil ?_
  (refine hK _ ?_; clear hK K; (try simp only [nA, Nat.reduceBEq, Nat.reduceEqDiff, ↓reduceIte, Nat.reduceAdd, Nat.reduceSub]))
  (refine AW.seq_k ?_; intro K hK)
  (refine AW.seq_k ?_; intro K hK)
  refine AW.region ?_
  refine awP (op_move rfl rfl) ?_; (try simp only [nA, Nat.reduceBEq, Nat.reduceEqDiff, ↓reduceIte, Nat.reduceAdd, Nat.reduceSub])
  (first | refine awP (op_len_ro rfl rfl Try.underlying23 (by first | exact .inr (.inl ⟨_, rfl, rfl⟩) | exact .inl rfl | exact .inr (.inr (.inl ⟨_, rfl, rfl⟩)) | exact .inr (.inr (.inr ⟨rfl, rfl⟩)))) ?_ | refine awP (op_len_sl rfl rfl rfl Try.underlying23) ?_ | refine awP (op_len_str rfl rfl Try.underlying23) ?_); (try simp only [nA, Nat.reduceBEq, Nat.reduceEqDiff, ↓reduceIte, Nat.reduceAdd, Nat.reduceSub])
  refine awP (op_gtr rfl rfl rfl) ?_; (try simp only [nA, Nat.reduceBEq, Nat.reduceEqDiff, ↓reduceIte, Nat.reduceAdd, Nat.reduceSub])
  refine AWL.nil ?_
  (refine hK _ ?_; clear hK K; (try simp only [nA, Nat.reduceBEq, Nat.reduceEqDiff, ↓reduceIte, Nat.reduceAdd, Nat.reduceSub]))
  refine AW.cond rfl rfl rfl (fun hc => ?_) (fun hc => ?_)
  ·
   (try simp only [hcS] at hc); have hc1 := hc; skip
   refine AW.region ?_
   refine awP (op_move rfl rfl) ?_; (try simp only [nA, Nat.reduceBEq, Nat.reduceEqDiff, ↓reduceIte, Nat.reduceAdd, Nat.reduceSub])
   refine awP (op_slice_ro 0 2000 rfl (.inl rfl) (by exact rfl) (by exact ⟨_, rfl⟩) (by omega) (by simp; omega) Try.underlying23 sz23 (iv_len l) (es' := (l.take 2000).map iv) (by simp [List.map_take])) ?_; (try simp only [nA, Nat.reduceBEq, Nat.reduceEqDiff, ↓reduceIte, Nat.reduceAdd, Nat.reduceSub])
   refine awP (op_assign rfl rfl) ?_; (try simp only [nA, Nat.reduceBEq, Nat.reduceEqDiff, ↓reduceIte, Nat.reduceAdd, Nat.reduceSub])
   refine AWL.nil ?_
   (refine hK _ ?_; clear hK K; (try simp only [nA, Nat.reduceBEq, Nat.reduceEqDiff, ↓reduceIte, Nat.reduceAdd, Nat.reduceSub]))
   (refine AW.seq_k ?_; intro K hK)
   refine AW.region ?_
   refine awP (op_move rfl rfl) ?_; (try simp only [nA, Nat.reduceBEq, Nat.reduceEqDiff, ↓reduceIte, Nat.reduceAdd, Nat.reduceSub])
   refine awP (op_build2 (xs := [_, .v (.int .i64 0)]) rfl pl40 ze40 [(0, [_])] rfl rfl rfl) ?_; (try simp only [nA, Nat.reduceBEq, Nat.reduceEqDiff, ↓reduceIte, Nat.reduceAdd, Nat.reduceSub])
   refine awJ (op_box rfl rfl rfl sz40 rfl) ?_; (try simp only [nA, Nat.reduceBEq, Nat.reduceEqDiff, ↓reduceIte, Nat.reduceAdd, Nat.reduceSub])
   refine awP (op_assign rfl rfl) ?_; (try simp only [nA, Nat.reduceBEq, Nat.reduceEqDiff, ↓reduceIte, Nat.reduceAdd, Nat.reduceSub])
   refine AWL.nil ?_
   (refine hK _ ?_; clear hK K; (try simp only [nA, Nat.reduceBEq, Nat.reduceEqDiff, ↓reduceIte, Nat.reduceAdd, Nat.reduceSub]))
   skip
   refine AW.ret ?_; (try simp only [thenE, inBlk, Nat.reduceEqDiff, ↓reduceIte]); exact ⟨2, 0, 1, rfl, (Nat.le_of_ble_eq_true rfl), rfl, rfl⟩
  ·
   (try simp only [hcS] at hc); have hc1 := hc; skip
   refine AW.skip ?_
   (refine hK _ ?_; clear hK K; (try simp only [nA, Nat.reduceBEq, Nat.reduceEqDiff, ↓reduceIte, Nat.reduceAdd, Nat.reduceSub]))
   (refine AW.seq_k ?_; intro K hK)
   refine AW.region ?_
   refine awP (op_move rfl rfl) ?_; (try simp only [nA, Nat.reduceBEq, Nat.reduceEqDiff, ↓reduceIte, Nat.reduceAdd, Nat.reduceSub])
   refine awP (op_build2 (xs := [_, .v (.int .i64 0)]) rfl pl40 ze40 [(0, [_])] rfl rfl rfl) ?_; (try simp only [nA, Nat.reduceBEq, Nat.reduceEqDiff, ↓reduceIte, Nat.reduceAdd, Nat.reduceSub])
   refine awJ (op_box rfl rfl rfl sz40 rfl) ?_; (try simp only [nA, Nat.reduceBEq, Nat.reduceEqDiff, ↓reduceIte, Nat.reduceAdd, Nat.reduceSub])
   refine awP (op_assign rfl rfl) ?_; (try simp only [nA, Nat.reduceBEq, Nat.reduceEqDiff, ↓reduceIte, Nat.reduceAdd, Nat.reduceSub])
   refine AWL.nil ?_
   (refine hK _ ?_; clear hK K; (try simp only [nA, Nat.reduceBEq, Nat.reduceEqDiff, ↓reduceIte, Nat.reduceAdd, Nat.reduceSub]))
   skip
   refine AW.ret ?_; (try simp only [thenE, inBlk, Nat.reduceEqDiff, ↓reduceIte]); rw [show l.take 2000 = l from List.take_of_length_le (by omega)]; exact ⟨2, 0, 1, rfl, (Nat.le_of_ble_eq_true rfl), rfl, rfl⟩
def gmod (x n : Int) : Int := if n < 1 then 0 else if Int.tmod x n < 0 then Int.tmod x n + n else Int.tmod x n
theorem gmod_bd {x n : Int} (h : 1 ≤ n) : 0 ≤ gmod x n ∧ gmod x n < n := by
  unfold gmod
  have h1 : Int.tmod x n < n := Int.tmod_lt_of_pos x (by omega)
  have h2 : -n < Int.tmod x n := Int.lt_tmod_of_pos x (by omega)
  rw [if_neg (by omega)]
  split <;> omega
theorem C19 {x n : Int} (hn : n ≤ 9223372036854775807) : Fn Try.prog 19 [] [.v (.int .i64 x), .v (.int .i64 n)] [.v (.int .i64 (gmod x n))] [] := by
  refine Spec.body Try.func19 rfl Try.ntmps19 (by simp) rfl ?_; intro S0 own0 v0 w0
  (refine AW.seq_k ?_; intro K hK)
  refine AW.region ?_
  refine awP (op_assign rfl rfl) ?_; (try simp only [nA, Nat.reduceBEq, Nat.reduceEqDiff, ↓reduceIte, Nat.reduceAdd, Nat.reduceSub])
  refine AWL.nil ?_
  (refine hK _ ?_; clear hK K; (try simp only [nA, Nat.reduceBEq, Nat.reduceEqDiff, ↓reduceIte, Nat.reduceAdd, Nat.reduceSub]))
  (refine AW.seq_k ?_; intro K hK)
  (refine AW.seq_k ?_; intro K hK)
  refine AW.region ?_
  refine awP (op_move rfl rfl) ?_; (try simp only [nA, Nat.reduceBEq, Nat.reduceEqDiff, ↓reduceIte, Nat.reduceAdd, Nat.reduceSub])
  refine awP (op_lss rfl rfl rfl) ?_; (try simp only [nA, Nat.reduceBEq, Nat.reduceEqDiff, ↓reduceIte, Nat.reduceAdd, Nat.reduceSub])
  refine AWL.nil ?_
  (refine hK _ ?_; clear hK K; (try simp only [nA, Nat.reduceBEq, Nat.reduceEqDiff, ↓reduceIte, Nat.reduceAdd, Nat.reduceSub]))
  refine AW.cond rfl rfl rfl (fun hc => ?_) (fun hc => ?_)
  ·
   (try simp only [hcS] at hc); have hc1 := hc; skip
   (refine AW.seq_k ?_; intro K hK)
   refine AW.region ?_
   refine awP (op_assign rfl rfl) ?_; (try simp only [nA, Nat.reduceBEq, Nat.reduceEqDiff, ↓reduceIte, Nat.reduceAdd, Nat.reduceSub])
   refine AWL.nil ?_
   (refine hK _ ?_; clear hK K; (try simp only [nA, Nat.reduceBEq, Nat.reduceEqDiff, ↓reduceIte, Nat.reduceAdd, Nat.reduceSub]))
   skip
   refine AW.ret ?_; (try simp only [thenE, inBlk, Nat.reduceEqDiff, ↓reduceIte]); rw [show gmod x n = 0 by unfold gmod; rw [if_pos hc]]; exact RQ.of0 rfl (.tmp (Nat.le_of_ble_eq_true rfl) rfl rfl .nil)
  ·
   (try simp only [hcS] at hc); have hc1 := hc; have h1 : Int.tmod x n < n := Int.tmod_lt_of_pos x (by omega); have h2 : -n < Int.tmod x n := Int.lt_tmod_of_pos x (by omega)
   refine AW.skip ?_
   (refine hK _ ?_; clear hK K; (try simp only [nA, Nat.reduceBEq, Nat.reduceEqDiff, ↓reduceIte, Nat.reduceAdd, Nat.reduceSub]))
   (refine AW.seq_k ?_; intro K hK)
   refine AW.region ?_
   refine awP (op_move rfl rfl) ?_; (try simp only [nA, Nat.reduceBEq, Nat.reduceEqDiff, ↓reduceIte, Nat.reduceAdd, Nat.reduceSub])
   refine awP (op_move rfl rfl) ?_; (try simp only [nA, Nat.reduceBEq, Nat.reduceEqDiff, ↓reduceIte, Nat.reduceAdd, Nat.reduceSub])
   refine awP (op_rem rfl rfl rfl (by omega) rfl) ?_; (try simp only [nA, Nat.reduceBEq, Nat.reduceEqDiff, ↓reduceIte, Nat.reduceAdd, Nat.reduceSub])
   refine awP (op_assign rfl rfl) ?_; (try simp only [nA, Nat.reduceBEq, Nat.reduceEqDiff, ↓reduceIte, Nat.reduceAdd, Nat.reduceSub])
   refine AWL.nil ?_
   (refine hK _ ?_; clear hK K; (try simp only [nA, Nat.reduceBEq, Nat.reduceEqDiff, ↓reduceIte, Nat.reduceAdd, Nat.reduceSub]))
   (refine AW.seq_k ?_; intro K hK)
   (refine AW.seq_k ?_; intro K hK)
   refine AW.region ?_
   refine awP (op_move rfl rfl) ?_; (try simp only [nA, Nat.reduceBEq, Nat.reduceEqDiff, ↓reduceIte, Nat.reduceAdd, Nat.reduceSub])
   refine awP (op_lss rfl rfl rfl) ?_; (try simp only [nA, Nat.reduceBEq, Nat.reduceEqDiff, ↓reduceIte, Nat.reduceAdd, Nat.reduceSub])
   refine AWL.nil ?_
   (refine hK _ ?_; clear hK K; (try simp only [nA, Nat.reduceBEq, Nat.reduceEqDiff, ↓reduceIte, Nat.reduceAdd, Nat.reduceSub]))
   refine AW.cond rfl rfl rfl (fun hc => ?_) (fun hc => ?_)
   ·
    (try simp only [hcS] at hc); have hc2 := hc; skip
    refine AW.region ?_
    refine awP (op_move rfl rfl) ?_; (try simp only [nA, Nat.reduceBEq, Nat.reduceEqDiff, ↓reduceIte, Nat.reduceAdd, Nat.reduceSub])
    refine awP (op_move rfl rfl) ?_; (try simp only [nA, Nat.reduceBEq, Nat.reduceEqDiff, ↓reduceIte, Nat.reduceAdd, Nat.reduceSub])
    (first | refine awP (op_addi rfl rfl rfl (by omega)) ?_ | refine awP (op_add rfl rfl rfl rfl) ?_); (try simp only [nA, Nat.reduceBEq, Nat.reduceEqDiff, ↓reduceIte, Nat.reduceAdd, Nat.reduceSub])
    refine awP (op_assign rfl rfl) ?_; (try simp only [nA, Nat.reduceBEq, Nat.reduceEqDiff, ↓reduceIte, Nat.reduceAdd, Nat.reduceSub])
    refine AWL.nil ?_
    (refine hK _ ?_; clear hK K; (try simp only [nA, Nat.reduceBEq, Nat.reduceEqDiff, ↓reduceIte, Nat.reduceAdd, Nat.reduceSub]))
    (refine AW.seq_k ?_; intro K hK)
    refine AW.region ?_
    refine awP (op_move rfl rfl) ?_; (try simp only [nA, Nat.reduceBEq, Nat.reduceEqDiff, ↓reduceIte, Nat.reduceAdd, Nat.reduceSub])
    refine awP (op_assign rfl rfl) ?_; (try simp only [nA, Nat.reduceBEq, Nat.reduceEqDiff, ↓reduceIte, Nat.reduceAdd, Nat.reduceSub])
    refine AWL.nil ?_
    (refine hK _ ?_; clear hK K; (try simp only [nA, Nat.reduceBEq, Nat.reduceEqDiff, ↓reduceIte, Nat.reduceAdd, Nat.reduceSub]))
    skip
    refine AW.ret ?_; (try simp only [thenE, inBlk, Nat.reduceEqDiff, ↓reduceIte]); rw [show gmod x n = Int.tmod x n + n by unfold gmod; rw [if_neg (by omega), if_pos (by omega)]]; exact RQ.of0 rfl (.tmp (Nat.le_of_ble_eq_true rfl) rfl rfl .nil)
   ·
    (try simp only [hcS] at hc); have hc2 := hc; skip
    refine AW.skip ?_
    (refine hK _ ?_; clear hK K; (try simp only [nA, Nat.reduceBEq, Nat.reduceEqDiff, ↓reduceIte, Nat.reduceAdd, Nat.reduceSub]))
    (refine AW.seq_k ?_; intro K hK)
    refine AW.region ?_
    refine awP (op_move rfl rfl) ?_; (try simp only [nA, Nat.reduceBEq, Nat.reduceEqDiff, ↓reduceIte, Nat.reduceAdd, Nat.reduceSub])
    refine awP (op_assign rfl rfl) ?_; (try simp only [nA, Nat.reduceBEq, Nat.reduceEqDiff, ↓reduceIte, Nat.reduceAdd, Nat.reduceSub])
    refine AWL.nil ?_
    (refine hK _ ?_; clear hK K; (try simp only [nA, Nat.reduceBEq, Nat.reduceEqDiff, ↓reduceIte, Nat.reduceAdd, Nat.reduceSub]))
    skip
    refine AW.ret ?_; (try simp only [thenE, inBlk, Nat.reduceEqDiff, ↓reduceIte]); rw [show gmod x n = Int.tmod x n by unfold gmod; rw [if_neg (by omega), if_neg (by omega)]]; exact RQ.of0 rfl (.tmp (Nat.le_of_ble_eq_true rfl) rfl rfl .nil)
def rawV (l : List Int) (k : Nat) : Int := l.getD k default
def rawN (l : List Int) (k : Nat) : Nat := if k < l.length then k + 1 else k
theorem C20 {l : List Int} {k : Nat} (hl : l.length ≤ 2000) : Fn Try.prog 20 [.own 40 [srcRow l k]] [.ptr 0 0 0 0] [.v (.int .i64 (rawV l k))] [.own 40 [srcRow l (rawN l k)]] := by
  refine Spec.body Try.func20 rfl Try.ntmps20 (by simp) rfl ?_; intro S0 own0 v0 w0
  (refine AW.seq_k ?_; intro K hK)
  refine AW.region ?_
  refine awP (op_assign rfl rfl) ?_; (try simp only [nA, Nat.reduceBEq, Nat.reduceEqDiff, ↓reduceIte, Nat.reduceAdd, Nat.reduceSub])
  refine AWL.nil ?_
  (refine hK _ ?_; clear hK K; (try simp only [nA, Nat.reduceBEq, Nat.reduceEqDiff, ↓reduceIte, Nat.reduceAdd, Nat.reduceSub]))
  (refine AW.seq_k ?_; intro K hK)
  (refine AW.seq_k ?_; intro K hK)
  refine AW.quiet mix (by kernel_rfl) ?_
  refine aqP (op_move rfl rfl) ?_; (try simp only [nA, Nat.reduceBEq, Nat.reduceEqDiff, ↓reduceIte, Nat.reduceAdd, Nat.reduceSub])
  (first | refine aqP (op_nil_slot rfl rfl rfl) ?_ | refine aqP (op_nil_ptr rfl rfl) ?_); (try simp only [nA, Nat.reduceBEq, Nat.reduceEqDiff, ↓reduceIte, Nat.reduceAdd, Nat.reduceSub])
  (first | refine aqP (op_fa_ptr rfl rfl rfl fl40_1 (by exact sz3) (by decide) rfl) ?_ | refine aqP (op_fa_rop rfl rfl fl40_1 (by exact sz3) (by decide) (Nat.le_of_ble_eq_true rfl) rfl) ?_); (try simp only [nA, Nat.reduceBEq, Nat.reduceEqDiff, ↓reduceIte, Nat.reduceAdd, Nat.reduceSub])
  (first | refine aqR (op_load_ptr1 rfl rfl rfl rfl ag3 rfl rfl) ?_ | refine aqR (op_load_rop1 rfl rfl ag3) ?_); (try simp only [nA, Nat.reduceBEq, Nat.reduceEqDiff, ↓reduceIte, Nat.reduceAdd, Nat.reduceSub])
  refine aqP (op_move rfl rfl) ?_; (try simp only [nA, Nat.reduceBEq, Nat.reduceEqDiff, ↓reduceIte, Nat.reduceAdd, Nat.reduceSub])
  (first | refine aqP (op_nil_slot rfl rfl rfl) ?_ | refine aqP (op_nil_ptr rfl rfl) ?_); (try simp only [nA, Nat.reduceBEq, Nat.reduceEqDiff, ↓reduceIte, Nat.reduceAdd, Nat.reduceSub])
  (first | refine aqP (op_fa_ptr rfl rfl rfl fl40_0 (by exact sz23) (by decide) rfl) ?_ | refine aqP (op_fa_rop rfl rfl fl40_0 (by exact sz23) (by decide) (Nat.le_of_ble_eq_true rfl) rfl) ?_); (try simp only [nA, Nat.reduceBEq, Nat.reduceEqDiff, ↓reduceIte, Nat.reduceAdd, Nat.reduceSub])
  (first | refine aqR (op_load_ptr1 rfl rfl rfl rfl ag23 rfl rfl) ?_ | refine aqR (op_load_rop1 rfl rfl ag23) ?_); (try simp only [nA, Nat.reduceBEq, Nat.reduceEqDiff, ↓reduceIte, Nat.reduceAdd, Nat.reduceSub])
  (first | refine aqP (op_len_ro rfl rfl Try.underlying23 (by first | exact .inr (.inl ⟨_, rfl, rfl⟩) | exact .inl rfl | exact .inr (.inr (.inl ⟨_, rfl, rfl⟩)) | exact .inr (.inr (.inr ⟨rfl, rfl⟩)))) ?_ | refine aqP (op_len_sl rfl rfl rfl Try.underlying23) ?_ | refine aqP (op_len_str rfl rfl Try.underlying23) ?_); (try simp only [nA, Nat.reduceBEq, Nat.reduceEqDiff, ↓reduceIte, Nat.reduceAdd, Nat.reduceSub])
  refine aqP (op_geq rfl rfl rfl) ?_; (try simp only [nA, Nat.reduceBEq, Nat.reduceEqDiff, ↓reduceIte, Nat.reduceAdd, Nat.reduceSub])
  refine AQ.nil ?_
  (refine hK _ ?_; clear hK K; (try simp only [nA, Nat.reduceBEq, Nat.reduceEqDiff, ↓reduceIte, Nat.reduceAdd, Nat.reduceSub]))
  refine AW.cond rfl rfl rfl (fun hc => ?_) (fun hc => ?_)
  ·
   (try simp only [hcS] at hc); have hc1 := hc; skip
   (refine AW.seq_k ?_; intro K hK)
   refine AW.region ?_
   refine awP (op_assign rfl rfl) ?_; (try simp only [nA, Nat.reduceBEq, Nat.reduceEqDiff, ↓reduceIte, Nat.reduceAdd, Nat.reduceSub])
   refine AWL.nil ?_
   (refine hK _ ?_; clear hK K; (try simp only [nA, Nat.reduceBEq, Nat.reduceEqDiff, ↓reduceIte, Nat.reduceAdd, Nat.reduceSub]))
   skip
   refine AW.ret ?_; (try simp only [thenE, inBlk, Nat.reduceEqDiff, ↓reduceIte]); rw [show rawV l k = 0 by unfold rawV; rw [List.getD_eq_getElem?_getD, List.getElem?_eq_none (by omega)]; rfl, show rawN l k = k by unfold rawN; rw [if_neg (by omega)]]; exact RQ.of (.inl rfl) rfl (.tmp (Nat.le_of_ble_eq_true rfl) rfl rfl .nil) (by simp) rfl (one_out rfl)
  ·
   (try simp only [hcS] at hc); have hc1 := hc; skip
   refine AW.skip ?_
   (refine hK _ ?_; clear hK K; (try simp only [nA, Nat.reduceBEq, Nat.reduceEqDiff, ↓reduceIte, Nat.reduceAdd, Nat.reduceSub]))
   (refine AW.seq_k ?_; intro K hK)
   refine AW.region ?_
   refine awP (op_move rfl rfl) ?_; (try simp only [nA, Nat.reduceBEq, Nat.reduceEqDiff, ↓reduceIte, Nat.reduceAdd, Nat.reduceSub])
   (first | refine awP (op_nil_slot rfl rfl rfl) ?_ | refine awP (op_nil_ptr rfl rfl) ?_); (try simp only [nA, Nat.reduceBEq, Nat.reduceEqDiff, ↓reduceIte, Nat.reduceAdd, Nat.reduceSub])
   (first | refine awP (op_fa_ptr rfl rfl rfl fl40_1 (by exact sz3) (by decide) rfl) ?_ | refine awP (op_fa_rop rfl rfl fl40_1 (by exact sz3) (by decide) (Nat.le_of_ble_eq_true rfl) rfl) ?_); (try simp only [nA, Nat.reduceBEq, Nat.reduceEqDiff, ↓reduceIte, Nat.reduceAdd, Nat.reduceSub])
   (first | refine awR (op_load_ptr1 rfl rfl rfl rfl ag3 rfl rfl) ?_ | refine awR (op_load_rop1 rfl rfl ag3) ?_); (try simp only [nA, Nat.reduceBEq, Nat.reduceEqDiff, ↓reduceIte, Nat.reduceAdd, Nat.reduceSub])
   (first | refine awP (op_addi rfl rfl rfl (by omega)) ?_ | refine awP (op_add rfl rfl rfl rfl) ?_); (try simp only [nA, Nat.reduceBEq, Nat.reduceEqDiff, ↓reduceIte, Nat.reduceAdd, Nat.reduceSub])
   (first | refine awP (op_nil_slot rfl rfl rfl) ?_ | refine awP (op_nil_ptr rfl rfl) ?_); (try simp only [nA, Nat.reduceBEq, Nat.reduceEqDiff, ↓reduceIte, Nat.reduceAdd, Nat.reduceSub])
   (first | refine awP (op_fa_ptr rfl rfl rfl fl40_1 (by exact sz3) (by decide) rfl) ?_ | refine awP (op_fa_rop rfl rfl fl40_1 (by exact sz3) (by decide) (Nat.le_of_ble_eq_true rfl) rfl) ?_); (try simp only [nA, Nat.reduceBEq, Nat.reduceEqDiff, ↓reduceIte, Nat.reduceAdd, Nat.reduceSub])
   refine awJ (op_store rfl rfl rfl rfl rfl rfl sz3 rfl (Nat.le_of_ble_eq_true rfl) rfl) ?_; (try simp only [nA, Nat.reduceBEq, Nat.reduceEqDiff, ↓reduceIte, Nat.reduceAdd, Nat.reduceSub])
   refine AWL.nil ?_
   (refine hK _ ?_; clear hK K; (try simp only [nA, Nat.reduceBEq, Nat.reduceEqDiff, ↓reduceIte, Nat.reduceAdd, Nat.reduceSub]))
   (refine AW.seq_k ?_; intro K hK)
   refine AW.quiet mix (by kernel_rfl) ?_
   refine aqP (op_move rfl rfl) ?_; (try simp only [nA, Nat.reduceBEq, Nat.reduceEqDiff, ↓reduceIte, Nat.reduceAdd, Nat.reduceSub])
   (first | refine aqP (op_nil_slot rfl rfl rfl) ?_ | refine aqP (op_nil_ptr rfl rfl) ?_); (try simp only [nA, Nat.reduceBEq, Nat.reduceEqDiff, ↓reduceIte, Nat.reduceAdd, Nat.reduceSub])
   (first | refine aqP (op_fa_ptr rfl rfl rfl fl40_0 (by exact sz23) (by decide) rfl) ?_ | refine aqP (op_fa_rop rfl rfl fl40_0 (by exact sz23) (by decide) (Nat.le_of_ble_eq_true rfl) rfl) ?_); (try simp only [nA, Nat.reduceBEq, Nat.reduceEqDiff, ↓reduceIte, Nat.reduceAdd, Nat.reduceSub])
   (first | refine aqR (op_load_ptr1 rfl rfl rfl rfl ag23 rfl rfl) ?_ | refine aqR (op_load_rop1 rfl rfl ag23) ?_); (try simp only [nA, Nat.reduceBEq, Nat.reduceEqDiff, ↓reduceIte, Nat.reduceAdd, Nat.reduceSub])
   refine aqP (op_move rfl rfl) ?_; (try simp only [nA, Nat.reduceBEq, Nat.reduceEqDiff, ↓reduceIte, Nat.reduceAdd, Nat.reduceSub])
   (first | refine aqP (op_nil_slot rfl rfl rfl) ?_ | refine aqP (op_nil_ptr rfl rfl) ?_); (try simp only [nA, Nat.reduceBEq, Nat.reduceEqDiff, ↓reduceIte, Nat.reduceAdd, Nat.reduceSub])
   (first | refine aqP (op_fa_ptr rfl rfl rfl fl40_1 (by exact sz3) (by decide) rfl) ?_ | refine aqP (op_fa_rop rfl rfl fl40_1 (by exact sz3) (by decide) (Nat.le_of_ble_eq_true rfl) rfl) ?_); (try simp only [nA, Nat.reduceBEq, Nat.reduceEqDiff, ↓reduceIte, Nat.reduceAdd, Nat.reduceSub])
   (first | refine aqR (op_load_ptr1 rfl rfl rfl rfl ag3 rfl rfl) ?_ | refine aqR (op_load_rop1 rfl rfl ag3) ?_); (try simp only [nA, Nat.reduceBEq, Nat.reduceEqDiff, ↓reduceIte, Nat.reduceAdd, Nat.reduceSub])
   (first | refine aqP (op_subi rfl rfl rfl (by omega)) ?_ | refine aqP (op_sub rfl rfl rfl rfl) ?_); (try simp only [nA, Nat.reduceBEq, Nat.reduceEqDiff, ↓reduceIte, Nat.reduceAdd, Nat.reduceSub])
   (first | refine aqP (op_ia_ro k rfl (.inl rfl) rfl Try.underlying23 (by omega) (get_mapD (by omega)) (by exact sz3) (Nat.le_of_ble_eq_true rfl)) ?_ | refine aqP (op_ia_sl _ _ rfl rfl rfl rfl Try.underlying23 rfl (by omega) (by exact sz3) rfl) ?_); (try simp only [nA, Nat.reduceBEq, Nat.reduceEqDiff, ↓reduceIte, Nat.reduceAdd, Nat.reduceSub])
   (first | refine aqR (op_load_ptr1 rfl rfl rfl rfl ag3 rfl rfl) ?_ | refine aqR (op_load_rop1 rfl rfl ag3) ?_); (try simp only [nA, Nat.reduceBEq, Nat.reduceEqDiff, ↓reduceIte, Nat.reduceAdd, Nat.reduceSub])
   refine aqP (op_assign rfl rfl) ?_; (try simp only [nA, Nat.reduceBEq, Nat.reduceEqDiff, ↓reduceIte, Nat.reduceAdd, Nat.reduceSub])
   refine AQ.nil ?_
   (refine hK _ ?_; clear hK K; (try simp only [nA, Nat.reduceBEq, Nat.reduceEqDiff, ↓reduceIte, Nat.reduceAdd, Nat.reduceSub]))
   skip
   refine AW.ret ?_; (try simp only [thenE, inBlk, Nat.reduceEqDiff, ↓reduceIte]); rw [show rawN l k = k + 1 by unfold rawN; rw [if_pos (by omega)]]; exact RQ.of (.inl rfl) rfl (.tmp (Nat.le_of_ble_eq_true rfl) rfl rfl .nil) (by simp) rfl (one_out rfl)
theorem C7 {l : List Int} {k : Nat} {n : Int} (hl : l.length ≤ 2000) (hn : n ≤ 9223372036854775807) : Fn Try.prog 7 [.own 40 [srcRow l k]] [.ptr 0 0 0 0, .v (.int .i64 n)] [.v (.int .i64 (gmod (rawV l k) n))] [.own 40 [srcRow l (rawN l k)]] := by
  refine Spec.body Try.func7 rfl Try.ntmps7 (by simp) rfl ?_; intro S0 own0 v0 w0
  (refine AW.seq_k ?_; intro K hK)
  refine AW.region ?_
  refine awP (op_assign rfl rfl) ?_; (try simp only [nA, Nat.reduceBEq, Nat.reduceEqDiff, ↓reduceIte, Nat.reduceAdd, Nat.reduceSub])
  refine AWL.nil ?_
  (refine hK _ ?_; clear hK K; (try simp only [nA, Nat.reduceBEq, Nat.reduceEqDiff, ↓reduceIte, Nat.reduceAdd, Nat.reduceSub]))
  (refine AW.seq_k ?_; intro K hK)
  refine AW.region ?_
  refine awP (op_move rfl rfl) ?_; (try simp only [nA, Nat.reduceBEq, Nat.reduceEqDiff, ↓reduceIte, Nat.reduceAdd, Nat.reduceSub])
  refine awJ (op_call1 rfl en20 (C20 hl) (by exact rfl) (RL.cons .ptr (RL.nil)) (by exact ⟨_, _, _, rfl, rfl, rfl⟩) (by exact rfl) (by exact rfl) (by exact rfl)) ?_; (try simp only [nA, Nat.reduceBEq, Nat.reduceEqDiff, ↓reduceIte, Nat.reduceAdd, Nat.reduceSub])
  refine awP (op_move rfl rfl) ?_; (try simp only [nA, Nat.reduceBEq, Nat.reduceEqDiff, ↓reduceIte, Nat.reduceAdd, Nat.reduceSub])
  refine awJ (OpQ.j (op_callQ (b := true) rfl en19 (C19 (by omega)) (RL.cons (by first | exact View.same rfl | exact View.nil | exact View.rof | exact View.src .ro | exact View.src .rof | exact View.src (.sl rfl rfl) | exact View.ptr rfl rfl rfl) (RL.cons (by first | exact View.same rfl | exact View.nil | exact View.rof | exact View.src .ro | exact View.src .rof | exact View.src (.sl rfl rfl) | exact View.ptr rfl rfl rfl) (RL.nil))) rfl)) ?_; (try simp only [nA, Nat.reduceBEq, Nat.reduceEqDiff, ↓reduceIte, Nat.reduceAdd, Nat.reduceSub])
  refine awP (op_assign rfl rfl) ?_; (try simp only [nA, Nat.reduceBEq, Nat.reduceEqDiff, ↓reduceIte, Nat.reduceAdd, Nat.reduceSub])
  refine AWL.nil ?_
  (refine hK _ ?_; clear hK K; (try simp only [nA, Nat.reduceBEq, Nat.reduceEqDiff, ↓reduceIte, Nat.reduceAdd, Nat.reduceSub]))
  skip
  refine AW.ret ?_; (try simp only [thenE, inBlk, Nat.reduceEqDiff, ↓reduceIte]); exact RQ.of (.inl rfl) rfl (.tmp (Nat.le_of_ble_eq_true rfl) rfl rfl .nil) (by simp) rfl (one_out rfl)
theorem iv_flat (l : List Int) : ∀ r ∈ l.map iv, ∀ c ∈ r, flatA c = true := fun r hr c hc => by
  obtain ⟨p, _, rfl⟩ := List.mem_map.1 hr
  obtain rfl : c = _ := by simpa using hc
  rfl
def pickV (l : List Int) (k : Nat) (xs : List Int) : Int := xs.getD (gmod (rawV l k) (xs.length : Nat)).toNat default
theorem C16 {l : List Int} {k : Nat} {xs : List Int} (hl : l.length ≤ 2000) (h1 : 1 ≤ xs.length) (h2 : xs.length ≤ 1000) : Fn Try.prog 16 [.own 40 [srcRow l k]] [.ptr 0 0 0 0, .ro (xs.map iv)] [.v (.int .i64 (pickV l k xs))] [.own 40 [srcRow l (rawN l k)]] := by
  have hg := gmod_bd (x := rawV l k) (n := (xs.length : Nat)) (by omega)
  refine Spec.body Try.func16 rfl Try.ntmps16 (by simp) rfl ?_; intro S0 own0 v0 w0
  (refine AW.seq_k ?_; intro K hK)
  refine AW.region ?_
  refine awP (op_assign rfl rfl) ?_; (try simp only [nA, Nat.reduceBEq, Nat.reduceEqDiff, ↓reduceIte, Nat.reduceAdd, Nat.reduceSub])
  refine AWL.nil ?_
  (refine hK _ ?_; clear hK K; (try simp only [nA, Nat.reduceBEq, Nat.reduceEqDiff, ↓reduceIte, Nat.reduceAdd, Nat.reduceSub]))
  (refine AW.seq_k ?_; intro K hK)
  refine AW.region ?_
  refine awP (op_move rfl rfl) ?_; (try simp only [nA, Nat.reduceBEq, Nat.reduceEqDiff, ↓reduceIte, Nat.reduceAdd, Nat.reduceSub])
  refine awP (op_move rfl rfl) ?_; (try simp only [nA, Nat.reduceBEq, Nat.reduceEqDiff, ↓reduceIte, Nat.reduceAdd, Nat.reduceSub])
  refine awP (op_move rfl rfl) ?_; (try simp only [nA, Nat.reduceBEq, Nat.reduceEqDiff, ↓reduceIte, Nat.reduceAdd, Nat.reduceSub])
  (first | refine awP (op_len_ro rfl rfl Try.underlying23 (by first | exact .inr (.inl ⟨_, rfl, rfl⟩) | exact .inl rfl | exact .inr (.inr (.inl ⟨_, rfl, rfl⟩)) | exact .inr (.inr (.inr ⟨rfl, rfl⟩)))) ?_ | refine awP (op_len_sl rfl rfl rfl Try.underlying23) ?_ | refine awP (op_len_str rfl rfl Try.underlying23) ?_); (try simp only [nA, Nat.reduceBEq, Nat.reduceEqDiff, ↓reduceIte, Nat.reduceAdd, Nat.reduceSub])
  refine awJ (op_call1 rfl en7 (C7 hl (n := (xs.length : Nat)) (by omega)) (by exact rfl) (RL.cons .ptr (RL.cons (.base (by first | exact View.same rfl | exact View.nil | exact View.rof | exact View.src .ro | exact View.src .rof | exact View.src (.sl rfl rfl) | exact View.ptr rfl rfl rfl)) (RL.nil))) (by exact ⟨_, _, _, rfl, rfl, rfl⟩) (by exact rfl) (by exact rfl) (by exact rfl)) ?_; (try simp only [nA, Nat.reduceBEq, Nat.reduceEqDiff, ↓reduceIte, Nat.reduceAdd, Nat.reduceSub])
  (first | refine awP (op_ia_ro (gmod (rawV l k) (xs.length : Nat)).toNat rfl (.inl rfl) rfl Try.underlying23 (by omega) (get_mapD (by omega)) (by exact sz3) (Nat.le_of_ble_eq_true rfl)) ?_ | refine awP (op_ia_sl _ _ rfl rfl rfl rfl Try.underlying23 rfl (by omega) (by exact sz3) rfl) ?_); (try simp only [nA, Nat.reduceBEq, Nat.reduceEqDiff, ↓reduceIte, Nat.reduceAdd, Nat.reduceSub])
  (first | refine awR (op_load_ptr1 rfl rfl rfl rfl ag3 rfl rfl) ?_ | refine awR (op_load_rop1 rfl rfl ag3) ?_); (try simp only [nA, Nat.reduceBEq, Nat.reduceEqDiff, ↓reduceIte, Nat.reduceAdd, Nat.reduceSub])
  refine awP (op_assign rfl rfl) ?_; (try simp only [nA, Nat.reduceBEq, Nat.reduceEqDiff, ↓reduceIte, Nat.reduceAdd, Nat.reduceSub])
  refine AWL.nil ?_
  (refine hK _ ?_; clear hK K; (try simp only [nA, Nat.reduceBEq, Nat.reduceEqDiff, ↓reduceIte, Nat.reduceAdd, Nat.reduceSub]))
  skip
  refine AW.ret ?_; (try simp only [thenE, inBlk, Nat.reduceEqDiff, ↓reduceIte]); exact RQ.of (.inl rfl) rfl (.tmp (Nat.le_of_ble_eq_true rfl) rfl rfl .nil) (by simp) rfl (one_out rfl)
abbrev BL := List UInt8
def byI (x : Int) : UInt8 := UInt8.ofNat (x % 256).toNat
theorem byI_nat (x : Int) : ((byI x).toNat : Int) = x % 256 := by
  unfold byI
  rw [UInt8.toNat_ofNat']
  omega
abbrev bv (b : UInt8) : List AV := [.v (.int .u8 (b.toNat : Nat))]
theorem bv_len (l : BL) : ∀ x ∈ l.map bv, x.length = 1 := fun x hx => by obtain ⟨g, _, rfl⟩ := List.mem_map.1 hx; rfl
theorem bv_flat (l : BL) : ∀ r ∈ l.map bv, ∀ c ∈ r, flatA c = true := fun r hr c hc => by
  obtain ⟨p, _, rfl⟩ := List.mem_map.1 hr
  obtain rfl : c = _ := by simpa using hc
  rfl
theorem wrapB (a : UInt8) : IntKind.i64.wrap (a.toNat : Int) = (a.toNat : Int) := by
  have := a.toNat_lt
  rw [IntKind.wrap_i64]; omega
theorem shlB (a : UInt8) (k : Nat) (hk : k ≤ 24) : IntKind.i64.wrap ((a.toNat : Int) * 2 ^ k) = ((a.toNat * 2 ^ k : Nat) : Int) := by
  have h := a.toNat_lt
  have h2 : 2 ^ k ≤ 2 ^ 24 := Nat.pow_le_pow_right (by decide) hk
  have h3 : a.toNat * 2 ^ k ≤ 255 * 2 ^ 24 := Nat.mul_le_mul (by omega) h2
  have e : (a.toNat : Int) * 2 ^ k = ((a.toNat * 2 ^ k : Nat) : Int) := by simp
  rw [e, IntKind.wrap_i64]
  omega
theorem wrapU (x : Int) : IntKind.u8.wrap x = (((byI x).toNat : Nat) : Int) := by rw [IntKind.wrap_u8, byI_nat]
theorem ba_list (l : BL) : (⟨l.toArray⟩ : ByteArray).toList = l := by
  simp [ByteArray.toList_eq]
end Go.Proofs.Ytmihcabjoodogaa
namespace Go.Proofs.Ytmihcabjoodogaa
open Go.RowKit
set_option linter.unusedSimpArgs false
set_option linter.unusedVariables false
set_option maxRecDepth 100000
def sh1 (r : UInt32) : UInt32 := if r % 2 = 1 then (r >>> 1) ^^^ 0xEDB88320 else r >>> 1
def shN : Nat → UInt32 → UInt32
  | 0, r => r
  | k+1, r => sh1 (shN k r)
def stp (r : UInt32) (x : UInt8) : UInt32 := shN 8 (r ^^^ x.toUInt32)
def crc (r : UInt32) (l : List UInt8) : UInt32 := l.foldl stp r
def fourL (n : UInt32) : List UInt8 := [(n >>> 24).toUInt8, (n >>> 16).toUInt8, (n >>> 8).toUInt8, n.toUInt8]
def u32 (i : Int) : UInt32 := UInt32.ofNat (i % 4294967296).toNat
def chk (i : Int) (l : List UInt8) : UInt32 := ~~~ (crc (crc 0xFFFFFFFF (fourL (u32 i))) l)
theorem u32_mod (i : Int) : i % 4294967296 = ((u32 i).toNat : Int) := by
  unfold u32
  have h1 := Int.emod_nonneg i (show (4294967296 : Int) ≠ 0 by omega)
  have h2 := Int.emod_lt_of_pos i (show (0 : Int) < 4294967296 by omega)
  rw [UInt32.toNat_ofNat_of_lt' (by show _ < 4294967296; omega)]
  omega
theorem sh1_bv (a : UInt32) : (sh1 a).toBitVec = (a.toBitVec >>> 1) ^^^ (if a.toBitVec.getLsbD 0 then 0xEDB88320#32 else 0#32) := by
  unfold sh1
  by_cases h : a % 2 = 1
  · rw [if_pos h]
    have : a.toBitVec.getLsbD 0 = true := by
      have := congrArg UInt32.toNat h
      simp at this
      rw [BitVec.getLsbD, Nat.testBit_zero]
      simpa using this
    rw [if_pos this]
    simp [UInt32.toBitVec_shiftRight]
  · rw [if_neg h]
    have : a.toBitVec.getLsbD 0 = false := by
      rw [BitVec.getLsbD, Nat.testBit_zero]
      simp
      have h1 : ¬ a.toNat % 2 = 1 := fun e => h (UInt32.toNat_inj.1 (by simpa using e))
      omega
    rw [this, if_neg (by simp)]
    simp [UInt32.toBitVec_shiftRight]
theorem sh1_xor (a b : UInt32) : sh1 (a ^^^ b) = sh1 a ^^^ sh1 b := by
  apply UInt32.toBitVec_inj.1
  rw [UInt32.toBitVec_xor, sh1_bv, sh1_bv, sh1_bv, UInt32.toBitVec_xor, BitVec.getLsbD_xor]
  have e : (a.toBitVec ^^^ b.toBitVec) >>> 1 = a.toBitVec >>> 1 ^^^ b.toBitVec >>> 1 := by
    ext i hi; simp
  rw [e]
  generalize a.toBitVec >>> 1 = p
  generalize b.toBitVec >>> 1 = q
  have hx : ∀ u v c : BitVec 32, (u ^^^ c) ^^^ (v ^^^ c) = u ^^^ v := fun u v c => by
    rw [BitVec.xor_assoc, ← BitVec.xor_assoc c, BitVec.xor_comm c, BitVec.xor_assoc v, BitVec.xor_self, BitVec.xor_zero]
  cases a.toBitVec.getLsbD 0 <;> cases b.toBitVec.getLsbD 0
  · simp
  · simp [BitVec.xor_assoc]
  · simp only [Bool.true_bne, Bool.not_false, if_true, Bool.true_xor, Bool.bne_false, Bool.false_eq_true, if_false, BitVec.xor_zero]
    rw [BitVec.xor_assoc, BitVec.xor_assoc, BitVec.xor_comm q]
  · simp [hx]
theorem shN_xor (n : Nat) (a b : UInt32) : shN n (a ^^^ b) = shN n a ^^^ shN n b := by
  induction n with
  | zero => rfl
  | succ n ih => simp only [shN]; rw [ih, sh1_xor]
theorem crc_append (r : UInt32) (l m : List UInt8) : crc r (l ++ m) = crc (crc r l) m := by simp [crc]
theorem sh1_even_nat (m : Nat) (h : 2 * m < 4294967296) : sh1 (UInt32.ofNat (2 * m)) = UInt32.ofNat m := by
  have hn : (UInt32.ofNat (2 * m)).toNat = 2 * m := UInt32.toNat_ofNat_of_lt' h
  unfold sh1
  rw [if_neg]
  · apply UInt32.toNat_inj.1
    rw [UInt32.toNat_shiftRight, hn, UInt32.toNat_ofNat_of_lt' (by show m < 4294967296; omega)]
    simp [Nat.shiftRight_eq_div_pow]
  · intro he
    have := UInt32.toNat_inj.2 he
    simp [hn] at this
theorem shN_shift (j : Nat) : ∀ m, m * 2 ^ j < 4294967296 → shN j (UInt32.ofNat (m * 2 ^ j)) = UInt32.ofNat m := by
  induction j with
  | zero => intro m _; simp [shN]
  | succ j ih =>
    intro m h
    have e : m * 2 ^ (j + 1) = (2 * m) * 2 ^ j := by rw [Nat.pow_succ, Nat.mul_comm 2 m, Nat.mul_assoc, Nat.mul_comm 2]
    rw [e] at h ⊢
    have h2 : 2 * m < 4294967296 := Nat.lt_of_le_of_lt (Nat.le_mul_of_pos_right _ (Nat.two_pow_pos j)) h
    show sh1 (shN j _) = _
    rw [ih _ h, sh1_even_nat m h2]
theorem split8 (r : UInt32) : r = r.toUInt8.toUInt32 ^^^ UInt32.ofNat (r.toNat / 256 * 2 ^ 8) := by
  have hr := r.toNat_lt
  apply UInt32.toNat_inj.1
  rw [UInt32.toNat_xor, UInt32.toNat_ofNat_of_lt' (by show _ < 4294967296; omega)]
  have h1 : r.toUInt8.toUInt32.toNat = r.toNat % 256 := by simp
  rw [h1]
  apply Nat.eq_of_testBit_eq
  intro i
  have hm := Nat.testBit_mod_two_pow r.toNat 8 i
  have hd : (r.toNat / 256 * 2 ^ 8).testBit i = (decide (8 ≤ i) && r.toNat.testBit i) := by
    rw [show r.toNat / 256 = r.toNat / 2 ^ 8 from rfl, ← Nat.shiftLeft_eq, Nat.testBit_shiftLeft]
    by_cases h : 8 ≤ i
    · rw [Nat.testBit_div_two_pow]; simp [h]
    · simp [h]
  rw [Nat.testBit_xor, hd, show (256 : Nat) = 2 ^ 8 from rfl, hm]
  by_cases h : i < 8
  · have : ¬ 8 ≤ i := by omega
    simp [h, this]
  · have : 8 ≤ i := by omega
    simp [h, this]
theorem shr8_nat (r : UInt32) : r >>> 8 = UInt32.ofNat (r.toNat / 256) := by
  have hr := r.toNat_lt
  apply UInt32.toNat_inj.1
  rw [UInt32.toNat_shiftRight, UInt32.toNat_ofNat_of_lt' (by show _ < 4294967296; omega)]
  simp [Nat.shiftRight_eq_div_pow]
theorem stp_tab (r : UInt32) (x : UInt8) : stp r x = shN 8 (UInt32.ofNat (r.toUInt8 ^^^ x).toNat) ^^^ (r >>> 8) := by
  have e : r ^^^ x.toUInt32 = UInt32.ofNat (r.toUInt8 ^^^ x).toNat ^^^ UInt32.ofNat (r.toNat / 256 * 2 ^ 8) := by
    have h1 : UInt32.ofNat (r.toUInt8 ^^^ x).toNat = r.toUInt8.toUInt32 ^^^ x.toUInt32 := by
      apply UInt32.toNat_inj.1
      have := (r.toUInt8 ^^^ x).toNat_lt
      rw [UInt32.toNat_ofNat_of_lt' (by show _ < 4294967296; omega)]
      simp
    rw [h1, UInt32.xor_assoc, UInt32.xor_comm x.toUInt32, ← UInt32.xor_assoc, ← split8]
  rw [stp, e, shN_xor, shN_shift 8 _ (by have := r.toNat_lt; omega), shr8_nat]
def tailL (b : List UInt8) (n : Nat) : List UInt8 := (b.drop (4 + n)).take 4
def recL (b : List UInt8) (n : Nat) : List UInt8 := (b.drop 4).take n
def lenL (b : List UInt8) : Nat := (b.getD 0 0).toNat * 256 + (b.getD 1 0).toNat
def firstL (i : Int) (b : List UInt8) : Option (List UInt8) :=
  if b.length < 8 then none
  else if b.getD 0 0 ≠ ~~~ b.getD 2 0 then none
  else if b.getD 1 0 ≠ ~~~ b.getD 3 0 then none
  else if 4096 < lenL b then none
  else if b.length < lenL b + 8 then none
  else if tailL b (lenL b) = fourL (chk i (recL b (lenL b))) then some (recL b (lenL b)) else none
def frameL (i : Int) (l : List UInt8) : List UInt8 :=
  [UInt8.ofNat (l.length / 256), UInt8.ofNat l.length, ~~~ UInt8.ofNat (l.length / 256), ~~~ UInt8.ofNat l.length] ++ l ++ fourL (chk i l)
theorem frameL_len (i : Int) (l : List UInt8) : (frameL i l).length = l.length + 8 := by simp [frameL, fourL]
def hdrL (n : Nat) : List UInt8 := [UInt8.ofNat (n / 256), UInt8.ofNat n, ~~~ UInt8.ofNat (n / 256), ~~~ UInt8.ofNat n]
def recsF : Nat → List (List UInt8) → Nat → List UInt8 → List (List UInt8) × Nat
  | 0, done, p, _ => (done, p)
  | f + 1, done, p, b =>
    match firstL done.length (b.drop p) with
    | none => (done, p)
    | some r => if 4194304 < p + (r.length + 8) then (done, p) else recsF f (done ++ [r]) (p + (r.length + 8)) b
def recs (b : List UInt8) : List (List UInt8) × Nat := recsF (b.length + 1) [] 0 b
theorem firstL_len {i : Int} {b r : List UInt8} (h : firstL i b = some r) : r.length + 8 ≤ b.length ∧ r.length ≤ 4096 := by
  unfold firstL at h
  split at h; · cases h
  split at h; · cases h
  split at h; · cases h
  split at h; · cases h
  split at h; · cases h
  split at h
  · injection h with h
    subst h
    rw [recL, List.length_take, List.length_drop]
    omega
  · cases h
def posL (l : List (List UInt8)) (j : Nat) : Nat := ((l.take j).map (fun r => r.length + 8)).sum
def appR (b r : List UInt8) : List UInt8 × Int :=
  if (recs b).2 ≠ b.length then ([], 13)
  else if 4096 < r.length ∨ 4194304 < b.length + r.length + 8 then ([], 2)
  else (b ++ frameL (recs b).1.length r, 0)
theorem firstL_cons (i : Int) (h0 h1 h2 h3 : UInt8) (t : List UInt8) (n : Nat) (hn : h0.toNat * 256 + h1.toNat = n) : firstL i (h0 :: h1 :: h2 :: h3 :: t) =
    if t.length < 4 then none else if h0 ≠ ~~~ h2 then none else if h1 ≠ ~~~ h3 then none
    else if 4096 < n then none else if t.length < n + 4 then none
    else if (t.drop n).take 4 = fourL (chk i (t.take n)) then some (t.take n) else none := by
  have e1 : ((h0 :: h1 :: h2 :: h3 :: t).length < 8) = (t.length < 4) := by simp; omega
  have e2 : lenL (h0 :: h1 :: h2 :: h3 :: t) = n := hn
  have e3 : ((h0 :: h1 :: h2 :: h3 :: t).length < n + 8) = (t.length < n + 4) := by simp
  have e4 : tailL (h0 :: h1 :: h2 :: h3 :: t) n = (t.drop n).take 4 := by rw [tailL, Nat.add_comm 4 n]; rfl
  have e5 : recL (h0 :: h1 :: h2 :: h3 :: t) n = t.take n := rfl
  clear hn
  unfold firstL
  rw [e2]
  simp only [e1, e3, e4, e5]
  rfl
theorem frameL_eq (i : Int) (r : List UInt8) (t : List UInt8) : frameL i r ++ t = UInt8.ofNat (r.length / 256) :: UInt8.ofNat r.length :: ~~~ UInt8.ofNat (r.length / 256) :: ~~~ UInt8.ofNat r.length :: (r ++ (fourL (chk i r) ++ t)) := by
  simp [frameL]
theorem len_hdr (n : Nat) (h : n ≤ 4096) : (UInt8.ofNat (n / 256)).toNat * 256 + (UInt8.ofNat n).toNat = n := by
  simp; omega
theorem fourL_len (c : UInt32) : (fourL c).length = 4 := rfl
theorem firstL_head (i : Int) (r t : List UInt8) (n : Nat) (hn : n ≤ 4096) : firstL i (UInt8.ofNat (n / 256) :: UInt8.ofNat n :: ~~~ UInt8.ofNat (n / 256) :: ~~~ UInt8.ofNat n :: t) =
    if t.length < n + 4 then none else if (t.drop n).take 4 = fourL (chk i (t.take n)) then some (t.take n) else none := by
  rw [firstL_cons _ _ _ _ _ _ n (len_hdr n hn)]
  by_cases h1 : t.length < 4
  · rw [if_pos h1, if_pos (by omega)]
  · rw [if_neg h1, if_neg (by simp), if_neg (by simp), if_neg (by omega)]
theorem firstL_frame (i : Int) (r t : List UInt8) (hr : r.length ≤ 4096) : firstL i (frameL i r ++ t) = some r := by
  rw [frameL_eq, firstL_head i r _ _ hr, if_neg (by simp [fourL_len]), List.take_left', List.drop_left', List.take_left' (fourL_len _), if_pos rfl] <;> rfl
theorem firstL_nil (i : Int) : firstL i [] = none := by rw [firstL, if_pos (by simp)]
def joinF : Nat → List (List UInt8) → List UInt8
  | _, [] => []
  | i, r :: l => frameL i r ++ joinF (i + 1) l
theorem recsF_join (l : List (List UInt8)) : ∀ (f : Nat) (done : List (List UInt8)) (p : Nat) (b t : List UInt8), l.length < f → b.drop p = joinF done.length l ++ t → (∀ r ∈ l, r.length ≤ 4096) →
    p + (joinF done.length l).length ≤ 4194304 → firstL (done.length + l.length : Nat) t = none → recsF f done p b = (done ++ l, p + (joinF done.length l).length) := by
  induction l with
  | nil =>
    intro f done p b t hf hb _ _ ht
    cases f with
    | zero => simp at hf
    | succ f =>
      rw [recsF, hb]
      simp only [joinF, List.nil_append, List.append_nil, List.length_nil, Nat.add_zero] at ht ⊢
      rw [ht]
  | cons r l ih =>
    intro f done p b t hf hb hr hp ht
    cases f with
    | zero => simp at hf
    | succ f =>
      have hj : joinF done.length (r :: l) = frameL done.length r ++ joinF (done.length + 1) l := rfl
      have hrl := hr r (by simp)
      have hfl := firstL_frame done.length r (joinF (done.length + 1) l ++ t) hrl
      rw [hj, List.append_assoc] at hb
      rw [hj, List.length_append, frameL_len] at hp
      rw [recsF, hb, hfl]
      have hle : ¬ 4194304 < p + (r.length + 8) := by omega
      simp only [hle, if_false]
      have hd : b.drop (p + (r.length + 8)) = joinF (done ++ [r]).length l ++ t := by
        rw [← List.drop_drop, hb, List.drop_left' (frameL_len _ _)]
        simp
      rw [ih f (done ++ [r]) (p + (r.length + 8)) b t (by simp at hf; omega) hd (fun q hq => hr q (by simp [hq])) (by simp; omega) (by
        rw [List.length_append]; simp only [List.length_cons, List.length_nil] at ht ⊢
        rw [← ht]; congr 1; omega)]
      have e1 : (frameL done.length r ++ joinF (done.length + 1) l).length = r.length + 8 + (joinF (done.length + 1) l).length := by rw [List.length_append, frameL_len]
      have e2 : (done ++ [r]).length = done.length + 1 := by simp
      rw [hj, e1, e2, List.append_assoc, List.singleton_append, Nat.add_assoc]
theorem many_len (l : List (List UInt8)) (i : Nat) : l.length * 8 ≤ (joinF i l).length := by
  induction l generalizing i with
  | nil => simp
  | cons r l ih =>
    rw [joinF, List.length_append, frameL_len]
    have := ih (i + 1)
    simp; omega
theorem recs_join (l : List (List UInt8)) (t : List UInt8) (hr : ∀ r ∈ l, r.length ≤ 4096) (hp : (joinF 0 l).length ≤ 4194304) (ht : firstL (l.length : Nat) t = none) :
    recs (joinF 0 l ++ t) = (l, (joinF 0 l).length) := by
  have := many_len l 0
  have h := recsF_join l ((joinF 0 l ++ t).length + 1) [] 0 (joinF 0 l ++ t) t (by rw [List.length_append]; omega) rfl hr (by simpa using hp) (by simpa using ht)
  rw [recs, h]
  simp
end Go.Proofs.Ytmihcabjoodogaa
namespace Go.Proofs.Ytmihcabjoodogaa
open Go.RowKit
set_option linter.unusedSimpArgs false
set_option linter.unusedVariables false
set_option maxRecDepth 100000
theorem sh_n {a : UInt32} {n : Nat} (k : UInt32) (hk : k.toNat % 32 = n) : (a >>> k).toNat = a.toNat / 2 ^ n := by
  rw [UInt32.toNat_shiftRight, hk, Nat.shiftRight_eq_div_pow]
theorem bs4_s (a b c d : UInt8) : [(0, bv a), (1, bv b), (2, bv c), (3, bv d)].foldl (fun cs p => splice cs (p.1 * 1) p.2) (List.replicate (4 * 1) .any) = ([a, b, c, d].map bv).flatten := by rfl
theorem C28 {c : UInt32} : Fn Try.prog 28 [] [.v (.int .u32 (c.toNat : Int))] [.ro ((fourL c).map bv)] [] := by
  refine Spec.body Try.func28 rfl Try.ntmps28 (by simp) rfl ?_; intro S0 own0 v0 w0
  (refine AW.seq_k ?_; intro K hK)
  refine AW.region ?_
  refine awP (op_assign rfl rfl) ?_; (try simp only [nA, Nat.reduceBEq, Nat.reduceEqDiff, ↓reduceIte, Nat.reduceAdd, Nat.reduceSub])
  refine AWL.nil ?_
  (refine hK _ ?_; clear hK K; (try simp only [nA, Nat.reduceBEq, Nat.reduceEqDiff, ↓reduceIte, Nat.reduceAdd, Nat.reduceSub]))
  (refine AW.seq_k ?_; intro K hK)
  refine AW.region ?_
  refine awP (op_move rfl rfl) ?_; (try simp only [nA, Nat.reduceBEq, Nat.reduceEqDiff, ↓reduceIte, Nat.reduceAdd, Nat.reduceSub])
  refine awP (op_shr32 (b := c >>> 24) 24 rfl rfl rfl rfl (by decide) (sh_n 24 rfl)) ?_; (try simp only [nA, Nat.reduceBEq, Nat.reduceEqDiff, ↓reduceIte, Nat.reduceAdd, Nat.reduceSub])
  refine awP (op_c328 rfl rfl Try.underlying44 Try.underlying5) ?_; (try simp only [nA, Nat.reduceBEq, Nat.reduceEqDiff, ↓reduceIte, Nat.reduceAdd, Nat.reduceSub])
  refine awP (op_move rfl rfl) ?_; (try simp only [nA, Nat.reduceBEq, Nat.reduceEqDiff, ↓reduceIte, Nat.reduceAdd, Nat.reduceSub])
  refine awP (op_shr32 (b := c >>> 16) 16 rfl rfl rfl rfl (by decide) (sh_n 16 rfl)) ?_; (try simp only [nA, Nat.reduceBEq, Nat.reduceEqDiff, ↓reduceIte, Nat.reduceAdd, Nat.reduceSub])
  refine awP (op_c328 rfl rfl Try.underlying44 Try.underlying5) ?_; (try simp only [nA, Nat.reduceBEq, Nat.reduceEqDiff, ↓reduceIte, Nat.reduceAdd, Nat.reduceSub])
  refine awP (op_move rfl rfl) ?_; (try simp only [nA, Nat.reduceBEq, Nat.reduceEqDiff, ↓reduceIte, Nat.reduceAdd, Nat.reduceSub])
  refine awP (op_shr32 (b := c >>> 8) 8 rfl rfl rfl rfl (by decide) (sh_n 8 rfl)) ?_; (try simp only [nA, Nat.reduceBEq, Nat.reduceEqDiff, ↓reduceIte, Nat.reduceAdd, Nat.reduceSub])
  refine awP (op_c328 rfl rfl Try.underlying44 Try.underlying5) ?_; (try simp only [nA, Nat.reduceBEq, Nat.reduceEqDiff, ↓reduceIte, Nat.reduceAdd, Nat.reduceSub])
  refine awP (op_move rfl rfl) ?_; (try simp only [nA, Nat.reduceBEq, Nat.reduceEqDiff, ↓reduceIte, Nat.reduceAdd, Nat.reduceSub])
  refine awP (op_c328 rfl rfl Try.underlying44 Try.underlying5) ?_; (try simp only [nA, Nat.reduceBEq, Nat.reduceEqDiff, ↓reduceIte, Nat.reduceAdd, Nat.reduceSub])
  refine awJ (OpJ.frz (op_buildSlice rfl [(0, bv (c >>> 24).toUInt8), (1, bv (c >>> 16).toUInt8), (2, bv (c >>> 8).toUInt8), (3, bv c.toUInt8)] ((fourL c).map bv) Try.underlying22 ze5 rfl (by simp) (bs4_s _ _ _ _) (bv_len _) rfl (Nat.le_of_ble_eq_true rfl) (by decide)) (bv_flat _) rfl) ?_; (try simp only [nA, Nat.reduceBEq, Nat.reduceEqDiff, ↓reduceIte, Nat.reduceAdd, Nat.reduceSub])
  refine awP (op_assign rfl rfl) ?_; (try simp only [nA, Nat.reduceBEq, Nat.reduceEqDiff, ↓reduceIte, Nat.reduceAdd, Nat.reduceSub])
  refine AWL.nil ?_
  (refine hK _ ?_; clear hK K; (try simp only [nA, Nat.reduceBEq, Nat.reduceEqDiff, ↓reduceIte, Nat.reduceAdd, Nat.reduceSub]))
  skip
  refine AW.ret ?_; (try simp only [thenE, inBlk, Nat.reduceEqDiff, ↓reduceIte]); exact RQ.of0 rfl (.tmp (Nat.le_of_ble_eq_true rfl) rfl rfl .nil)
def tv (i : Nat) : UInt32 := shN 8 (UInt32.ofNat i)
def tabA (k : Nat) : List AV := (List.range 256).map fun i => if i < k then .v (.int .u32 ((tv i).toNat : Int)) else .v (.int .u32 0)
theorem tab_get {i : Nat} (h : i < 256) : (tabA 256)[i]? = some (.v (.int .u32 ((tv i).toNat : Int))) := by
  unfold tabA
  rw [List.getElem?_map, List.getElem?_range h, Option.map_some, if_pos h]
theorem crc_step {r : UInt32} {l : BL} {i : Nat} {b : UInt8} (h : l[i]? = some b) : crc r (l.take (i + 1)) = tv ((crc r (l.take i)).toUInt8 ^^^ b).toNat ^^^ (crc r (l.take i) >>> 8) := by
  have hi := (List.getElem?_eq_some_iff.1 h).1
  rw [List.take_succ_eq_append_getElem hi, crc_append]
  have hb : l[i] = b := (List.getElem?_eq_some_iff.1 h).2
  rw [hb]
  show stp _ b = _
  rw [stp_tab]; rfl
theorem u8_lt' (a : UInt8) : a.toNat < 256 := a.toNat_lt
theorem C30 {r : UInt32} {l : BL} (hl : l.length ≤ 9223372036854775807) : Fn Try.prog 30 [] [.rop (tabA 256), .v (.int .u32 (r.toNat : Int)), .ro (l.map bv)] [.v (.int .u32 ((crc r l).toNat : Int))] [] := by
  refine Spec.body Try.func30 rfl Try.ntmps30 (by simp) rfl ?_; intro S0 own0 v0 w0
  (refine AW.seq_k ?_; intro K hK)
  refine AW.region ?_
  refine awP (op_assign rfl rfl) ?_; (try simp only [nA, Nat.reduceBEq, Nat.reduceEqDiff, ↓reduceIte, Nat.reduceAdd, Nat.reduceSub])
  refine AWL.nil ?_
  (refine hK _ ?_; clear hK K; (try simp only [nA, Nat.reduceBEq, Nat.reduceEqDiff, ↓reduceIte, Nat.reduceAdd, Nat.reduceSub]))
  (refine AW.seq_k ?_; intro K hK)
  (refine AW.seq_k ?_; intro K hK)
  refine AW.region ?_
  refine awP (op_move rfl rfl) ?_; (try simp only [nA, Nat.reduceBEq, Nat.reduceEqDiff, ↓reduceIte, Nat.reduceAdd, Nat.reduceSub])
  refine awP (op_len_ro (n := l.length) rfl rfl Try.underlying22 (.inr (.inl ⟨_, rfl, by simp⟩))) ?_; (try simp only [nA, Nat.reduceBEq, Nat.reduceEqDiff, ↓reduceIte, Nat.reduceAdd, Nat.reduceSub])
  refine awP (op_move rfl rfl) ?_; (try simp only [nA, Nat.reduceBEq, Nat.reduceEqDiff, ↓reduceIte, Nat.reduceAdd, Nat.reduceSub])
  refine AWL.nil ?_
  (refine hK _ ?_; clear hK K; (try simp only [nA, Nat.reduceBEq, Nat.reduceEqDiff, ↓reduceIte, Nat.reduceAdd, Nat.reduceSub]))
  refine AW.block ?_
  refine AW.loopI (fun i => [(0, .rop (tabA 256)), (1, .v (.int .u32 ((crc r (l.take i)).toNat : Int))), (9, .ro (l.map bv)), (10, .v (.int .i64 l.length)), (11, .v (.int .i64 (i : Nat)))]) (fun i => ⟨[], 1⟩) (fun i => i ≤ l.length) (fun i => l.length - i) 0 (by simp) ⟨rfl, rfl, rfl, rfl, rfl, trivial⟩ rfl ?_; intro i ρ hi; simp only [updL]; (try simp only [nA, Nat.reduceBEq, Nat.reduceEqDiff, ↓reduceIte, Nat.reduceAdd, Nat.reduceSub])
  (refine AW.seq_k ?_; intro K hK)
  refine AW.region ?_
  refine awP (op_lss rfl rfl rfl) ?_; (try simp only [nA, Nat.reduceBEq, Nat.reduceEqDiff, ↓reduceIte, Nat.reduceAdd, Nat.reduceSub])
  refine AWL.nil ?_
  (refine hK _ ?_; clear hK K; (try simp only [nA, Nat.reduceBEq, Nat.reduceEqDiff, ↓reduceIte, Nat.reduceAdd, Nat.reduceSub]))
  (refine AW.seq_k ?_; intro K hK)
  refine AW.cond rfl rfl rfl (fun hc => ?_) (fun hc => ?_)
  ·
   (skip); have hc1 := hc; have hlt : i < l.length := (by have := of_decide_eq_true hc1; omega); obtain ⟨b, hb⟩ : ∃ b, l[i]? = some b := ⟨_, List.getElem?_eq_getElem hlt⟩
   refine AW.skip ?_
   (refine hK _ ?_; clear hK K; (try simp only [nA, Nat.reduceBEq, Nat.reduceEqDiff, ↓reduceIte, Nat.reduceAdd, Nat.reduceSub]))
   (refine AW.seq_k ?_; intro K hK)
   refine AW.block ?_
   (refine AW.seq_k ?_; intro K hK)
   refine AW.region ?_
   refine awP (op_ia_ro i rfl (.inl rfl) rfl Try.underlying22 rfl (show (l.map bv)[i]? = some (bv b) by rw [List.getElem?_map, hb]; rfl) (by exact sz5) (Nat.le_of_ble_eq_true rfl)) ?_; (try simp only [nA, Nat.reduceBEq, Nat.reduceEqDiff, ↓reduceIte, Nat.reduceAdd, Nat.reduceSub])
   (first | refine awR (op_load_ptr1 rfl rfl rfl rfl ag5 rfl rfl) ?_ | refine awR (op_load_rop1 rfl rfl ag5) ?_); (try simp only [nA, Nat.reduceBEq, Nat.reduceEqDiff, ↓reduceIte, Nat.reduceAdd, Nat.reduceSub])
   refine awP (op_assign rfl rfl) ?_; (try simp only [nA, Nat.reduceBEq, Nat.reduceEqDiff, ↓reduceIte, Nat.reduceAdd, Nat.reduceSub])
   refine AWL.nil ?_
   (refine hK _ ?_; clear hK K; (try simp only [nA, Nat.reduceBEq, Nat.reduceEqDiff, ↓reduceIte, Nat.reduceAdd, Nat.reduceSub]))
   refine AW.region ?_
   refine awP (op_move rfl rfl) ?_; (try simp only [nA, Nat.reduceBEq, Nat.reduceEqDiff, ↓reduceIte, Nat.reduceAdd, Nat.reduceSub])
   refine awP (op_move rfl rfl) ?_; (try simp only [nA, Nat.reduceBEq, Nat.reduceEqDiff, ↓reduceIte, Nat.reduceAdd, Nat.reduceSub])
   refine awP (op_c328 rfl rfl Try.underlying44 Try.underlying5) ?_; (try simp only [nA, Nat.reduceBEq, Nat.reduceEqDiff, ↓reduceIte, Nat.reduceAdd, Nat.reduceSub])
   refine awP (op_move rfl rfl) ?_; (try simp only [nA, Nat.reduceBEq, Nat.reduceEqDiff, ↓reduceIte, Nat.reduceAdd, Nat.reduceSub])
   refine awP (op_xor8 rfl rfl rfl) ?_; (try simp only [nA, Nat.reduceBEq, Nat.reduceEqDiff, ↓reduceIte, Nat.reduceAdd, Nat.reduceSub])
   (first | refine awP (op_nil_slot rfl rfl rfl) ?_ | refine awP (op_nil_ptr rfl rfl) ?_); (try simp only [nA, Nat.reduceBEq, Nat.reduceEqDiff, ↓reduceIte, Nat.reduceAdd, Nat.reduceSub])
   refine awP (op_ia_rarr ((crc r (l.take i)).toUInt8 ^^^ b).toNat rfl rfl rfl Try.underlying49 rfl (u8_lt' _) sz44 (tab_get (u8_lt' _))) ?_; (try simp only [nA, Nat.reduceBEq, Nat.reduceEqDiff, ↓reduceIte, Nat.reduceAdd, Nat.reduceSub])
   (first | refine awR (op_load_ptr1 rfl rfl rfl rfl ag44 rfl rfl) ?_ | refine awR (op_load_rop1 rfl rfl ag44) ?_); (try simp only [nA, Nat.reduceBEq, Nat.reduceEqDiff, ↓reduceIte, Nat.reduceAdd, Nat.reduceSub])
   refine awP (op_move rfl rfl) ?_; (try simp only [nA, Nat.reduceBEq, Nat.reduceEqDiff, ↓reduceIte, Nat.reduceAdd, Nat.reduceSub])
   refine awP (op_shr32 (b := crc r (l.take i) >>> 8) 8 rfl rfl rfl rfl (by decide) (sh_n 8 rfl)) ?_; (try simp only [nA, Nat.reduceBEq, Nat.reduceEqDiff, ↓reduceIte, Nat.reduceAdd, Nat.reduceSub])
   refine awP (op_xor32 rfl rfl rfl) ?_; (try simp only [nA, Nat.reduceBEq, Nat.reduceEqDiff, ↓reduceIte, Nat.reduceAdd, Nat.reduceSub])
   refine awP (op_assign rfl rfl) ?_; (try simp only [nA, Nat.reduceBEq, Nat.reduceEqDiff, ↓reduceIte, Nat.reduceAdd, Nat.reduceSub])
   refine AWL.nil ?_
   (try simp only [thenE, inBlk, Nat.reduceEqDiff, ↓reduceIte])
   (refine hK _ ?_; clear hK K; (try simp only [nA, Nat.reduceBEq, Nat.reduceEqDiff, ↓reduceIte, Nat.reduceAdd, Nat.reduceSub]))
   refine AW.region ?_
   (first | refine awP (op_addi rfl rfl rfl (by omega)) ?_ | refine awP (op_add rfl rfl rfl rfl) ?_); (try simp only [nA, Nat.reduceBEq, Nat.reduceEqDiff, ↓reduceIte, Nat.reduceAdd, Nat.reduceSub])
   refine awP (op_move rfl rfl) ?_; (try simp only [nA, Nat.reduceBEq, Nat.reduceEqDiff, ↓reduceIte, Nat.reduceAdd, Nat.reduceSub])
   skip
   refine AWL.nil ?_
   refine ⟨i + 1, by omega, by omega, ⟨rfl, by exact congrArg (fun z : UInt32 => AV.v (.int .u32 (z.toNat : Int))) (crc_step hb).symm, rfl, rfl, by exact congrArg (fun z => AV.v (.int .i64 z)) (by omega), trivial⟩, (by first | rfl | trivial), (by first | rfl | trivial)⟩
  ·
   (skip); have hc1 := hc; have hie : l.take i = l := (by have := of_decide_eq_false hc1; exact List.take_of_length_le (by omega))
   refine AW.exit ?_; (try simp only [thenE, inBlk, Nat.reduceEqDiff, ↓reduceIte])
   clear hK K
   (refine hK _ ?_; clear hK K; (try simp only [nA, Nat.reduceBEq, Nat.reduceEqDiff, ↓reduceIte, Nat.reduceAdd, Nat.reduceSub]))
   (refine AW.seq_k ?_; intro K hK)
   refine AW.region ?_
   refine awP (op_move rfl rfl) ?_; (try simp only [nA, Nat.reduceBEq, Nat.reduceEqDiff, ↓reduceIte, Nat.reduceAdd, Nat.reduceSub])
   refine awP (op_assign rfl rfl) ?_; (try simp only [nA, Nat.reduceBEq, Nat.reduceEqDiff, ↓reduceIte, Nat.reduceAdd, Nat.reduceSub])
   refine AWL.nil ?_
   (refine hK _ ?_; clear hK K; (try simp only [nA, Nat.reduceBEq, Nat.reduceEqDiff, ↓reduceIte, Nat.reduceAdd, Nat.reduceSub]))
   skip
   refine AW.ret ?_; (try simp only [thenE, inBlk, Nat.reduceEqDiff, ↓reduceIte]); rw [hie]; exact RQ.of0 rfl (.tmp (Nat.le_of_ble_eq_true rfl) rfl rfl .nil)
end Go.Proofs.Ytmihcabjoodogaa
