import Derived.Test.YtngfknoddphhaaaAb1
namespace Go.Proofs.Ytngfknoddphhaaa
open Go.RowKit
set_option linter.unusedSimpArgs false
set_option linter.unusedVariables false

/-! ### Rules of the code -/
section
variable {C : Cx} {Q : Exit → Sta → Prop} {σ : Sta}
def thenE (next : Sta → Prop) (Q : Exit → Sta → Prop) : Exit → Sta → Prop
  | .normal, σ => next σ
  | e, σ => Q e σ
theorem AW.mono {c : Code} {Q' : Exit → Sta → Prop} (h : AW C c Q σ) (hq : ∀ e σ, Q e σ → Q' e σ) : AW C c Q' σ := fun a w hs =>
  wp_mono (h a w hs) fun e a w ⟨σ, h1, h2⟩ => ⟨σ, h1, hq _ _ h2⟩
theorem AW.seq {x y : Code} (h : AW C x (thenE (AW C y Q) Q) σ) : AW C (.seq x y) Q σ := fun a w hs =>
  wp_seq (wp_mono (h a w hs) fun e a w ⟨σ, h1, h2⟩ => by
    cases e with
    | normal => exact h2 a w h1
    | _ => exact ⟨σ, h1, h2⟩)
theorem AW.seq_k {x y : Code} (h : ∀ K : Sta → Prop, (∀ σ, AW C y Q σ → K σ) → AW C x (thenE K Q) σ) : AW C (.seq x y) Q σ := AW.seq (h _ fun _ h => h)
theorem AW.skip (h : Q .normal σ) : AW C .skip Q σ := fun a w hs => wp_skip ⟨σ, hs, h⟩
theorem AW.label {l : Nat} (h : Q .normal σ) : AW C (.label l) Q σ := fun a w hs => wp_label ⟨σ, hs, h⟩
theorem AW.exit {i : Nat} (h : Q (.exit i) σ) : AW C (.exit i) Q σ := fun a w hs => wp_exit ⟨σ, hs, h⟩
theorem AW.ret (h : Q .ret σ) : AW C .ret Q σ := fun a w hs => wp_ret ⟨σ, hs, h⟩
def inBlk (id : Nat) (Q : Exit → Sta → Prop) : Exit → Sta → Prop
  | .exit id', σ => if id' = id then Q .normal σ else Q (.exit id') σ
  | e, σ => Q e σ
theorem AW.block {i : Nat} {c : Code} (h : AW C c (inBlk i Q) σ) : AW C (.block i c) Q σ := fun a w hs =>
  wp_block (wp_mono (h a w hs) fun e a w ⟨σ, h1, h2⟩ => by
    cases e with
    | exit j =>
      simp only [inBlk] at h2
      simp only [Exit.inBlock]
      split at h2
      · rename_i hj; rw [if_pos hj]; exact ⟨σ, h1, h2⟩
      · rename_i hj; rw [if_neg hj]; exact ⟨σ, h1, h2⟩
    | _ => exact ⟨σ, h1, h2⟩)
theorem St.bool {a : Act} {w : World} (hs : St C σ a w) {c : Operand} {t : Bool} (hn : noneBig c σ.n = true) (hk : constOk c = true) (hc : evA σ.env c = .v (.bool t)) : a.eval c = .bool t := by
  obtain ⟨hd, hn', S, vals, bss, hm, he⟩ := hs
  have := St.eval hn' he c hn hk
  rw [hc] at this
  have h' : Rep C.P S w [] (a.eval c) (.v (.bool t)) := this
  exact h'.v_inv.1
theorem AW.cond {c : Operand} {x y : Code} {t : Bool} (hn : noneBig c σ.n = true) (hk : constOk c = true) (hc : evA σ.env c = .v (.bool t)) (ht : t = true → AW C x Q σ) (hf : t = false → AW C y Q σ) : AW C (.cond c x y) Q σ := fun a w hs =>
  wp_cond_split (hs.bool hn hk hc) (fun h => ht h a w hs) (fun h => hf h a w hs)
theorem AW.loop {c : Code} (I : Sta → Prop) (μ : Sta → Nat) (h0 : I σ) (round : ∀ σ, I σ → AW C c (thenE (fun σ' => I σ' ∧ μ σ' < μ σ) Q) σ) : AW C (.loop c) Q σ := by
  intro a w hs b k cs
  have key : ∀ n σ a w, μ σ = n → I σ → St C σ a w →
      ∃ e a' w', hat C Q e a' w' ∧ Arrives C.P (lone (b.at a (.code c :: .inLoop c :: k)) cs w) b k cs e a' w' := by
    intro n
    induction n using Nat.strongRecOn with
    | _ n ih =>
      intro σ a w hn hI hs
      obtain ⟨e, a₁, w₁, ⟨σ₁, hs₁, hq⟩, harr⟩ := round σ hI a w hs b (.inLoop c :: k) cs
      cases e with
      | normal =>
        obtain ⟨hI₁, hlt⟩ := hq
        obtain ⟨e₂, a₂, w₂, hq₂, harr₂⟩ := ih (μ σ₁) (hn ▸ hlt) σ₁ a₁ w₁ rfl hI₁ hs₁
        exact ⟨e₂, a₂, w₂, hq₂, .of_steps (Steps.trans harr (.one step_inLoop)) harr₂⟩
      | exit id => exact ⟨_, a₁, w₁, ⟨σ₁, hs₁, hq⟩, .pass (x := .inLoop c) rfl (fun _ _ => .inl (by simp)) harr⟩
      | goto l => exact ⟨_, a₁, w₁, ⟨σ₁, hs₁, hq⟩, .pass (x := .inLoop c) rfl (fun _ _ => .inl (by simp)) harr⟩
      | ret => exact ⟨_, a₁, w₁, ⟨σ₁, hs₁, hq⟩, .pass (x := .inLoop c) rfl (fun _ _ => .inl (by simp)) harr⟩
      | panic ch => exact ⟨_, a₁, w₁, ⟨σ₁, hs₁, hq⟩, .pass (x := .inLoop c) rfl (fun _ _ => .inl (by simp)) harr⟩
      | outgrown => exact ⟨_, a₁, w₁, ⟨σ₁, hs₁, hq⟩, .pass (x := .inLoop c) rfl (fun _ _ => .inl (by simp)) harr⟩
  obtain ⟨e, a', w', hq, harr⟩ := key _ σ a w rfl h0 hs
  exact ⟨e, a', w', hq, .of_steps (.one step_loop) harr⟩
/-- A region in the order of the text. -/
theorem AW.region {i : Nat} {l : List Oper} (h : AWL C l.toArray Q l σ) : AW C (.region i l.toArray false) Q σ := fun a w hs => wp_region_lit (h a w hs)
/-- The state may be known less well. -/
def Wk (σ σ' : Sta) : Prop := σ'.T = σ.T ∧ σ'.n = σ.n ∧ ∀ t, t < σ.n → σ'.env t = .any ∨ σ'.env t = σ.env t
theorem TmpOK.any_ {P : Program} {S : Nat → Prop} {w : World} {T : Sl} {vals : List Value} {u : Value} : TmpOK P S w T vals u .any := trivial
theorem AW.weak {c : Code} {σ' : Sta} (hw : Wk σ σ') (h : AW C c Q σ') : AW C c Q σ := fun a w ⟨hd, hn, S, vals, bss, hm, he⟩ => by
  obtain ⟨e1, e2, e3⟩ := hw
  refine h a w ⟨hd, by rw [e2]; exact hn, S, vals, bss, by rw [e1]; exact hm, fun t ht => ?_⟩
  rw [e2] at ht
  rw [e1]
  rcases e3 t ht with h0 | h0
  · rw [h0]; exact TmpOK.any_
  · rw [h0]; exact he t ht

/-! ### Guards -/
theorem AWL.guard_yes {ops : Array Oper} {o o' : Oper} {l : List Oper} {x : AV} {T' : Sl} {g d : Nat} {b : Bool} (hg : o.guard = some (g, b)) (ho' : ops[g]? = some o') (hd : o'.dst = some d) (hdn : d < σ.n) (hv : σ.env d = .v (.bool b))
    (ho : opsOk o σ.n = true) (hj : OpJ C o (evA σ.env) σ.T x T') (h : AWL C ops Q l ⟨putE σ.env o.dst x, T', σ.n⟩) : AWL C ops Q (o :: l) σ := by
  intro a w hs
  have hs' := hs
  obtain ⟨hd', hn, S, vals, bss, hm, he⟩ := hs
  have hb := hs'.bool (c := .tmp d) (t := b) (by simpa [noneBig] using hdn) rfl hv
  refine wpList_step fun K hK => ?_
  have hw : Region.wanted o (yielded ops a.tmps) = true := by
    have hlt : d < a.tmps.size := by rw [hn]; exact hdn
    simp [Act.eval, hlt] at hb
    simp [Region.wanted, hg, yielded, ho', hd, hlt, hb]
  rw [if_pos hw]
  exact hj a w S vals bss hm (St.ops hn he ho) K (fun v w' S' vals' bss' hm' hf hx => hK _ _ (h _ _ (St.put hd' hn he hm' hf hx))) _
theorem AWL.guard_no {ops : Array Oper} {o o' : Oper} {l : List Oper} {g d : Nat} {b : Bool} (hg : o.guard = some (g, !b)) (ho' : ops[g]? = some o') (hd : o'.dst = some d) (hdn : d < σ.n) (hv : σ.env d = .v (.bool b))
    (h : AWL C ops Q l ⟨putE σ.env o.dst .any, σ.T, σ.n⟩) : AWL C ops Q (o :: l) σ := by
  intro a w hs
  have hs' := hs
  obtain ⟨hd', hn, S, vals, bss, hm, he⟩ := hs
  have hb := hs'.bool (c := .tmp d) (t := b) (by simpa [noneBig] using hdn) rfl hv
  refine wpList_step fun K hK => ?_
  have hw : ¬ Region.wanted o (yielded ops a.tmps) = true := by
    have hlt : d < a.tmps.size := by rw [hn]; exact hdn
    simp [Act.eval, hlt] at hb
    simp [Region.wanted, hg, yielded, ho', hd, hlt, hb]
  rw [if_neg hw]
  exact hK _ _ (h _ _ (St.put hd' hn he hm Follows.refl TmpOK.any_))

/-! ### Regions that draw their order -/
def AWAny (C : Cx) (ops : Array Oper) (Q : Exit → Sta → Prop) (fuel : Nat) (listed : Array Bool) (σ : Sta) : Prop := ∀ a w, St C σ a w → wpAny C.P .any ops (hat C Q) fuel listed a w
theorem St.drew {a : Act} {w : World} (hs : St C σ a w) : St C σ a { w with drawn := w.drawn + 1 } := by
  obtain ⟨hd, hn, S, vals, bss, hm, he⟩ := hs
  have hk : Kept (fun _ => True) w w.drew := (Kept.refl _ _).drew
  refine ⟨hd, hn, S, vals, bss, ⟨hm.kept.drew, hm.s0, hm.sub, hm.lt, hm.nv, hm.nb, fun r k x v bs h1 h2 h3 => (hm.rep r k x v bs h1 h2 h3).kept hk (fun _ _ _ => trivial) (fun _ _ => trivial), hm.nodup, hm.disj, hm.apart, hm.mine, hm.root, hm.ver, hm.pos⟩, fun t ht => ?_⟩
  exact TmpOK.follows (Follows.kept hk (fun _ _ _ => trivial) fun _ h => h) (he t ht)
theorem AW.region_any {i : Nat} {ops : Array Oper} (hm : C.P.follows .mixedOrders = true) (h : AWAny C ops Q ops.size (Array.replicate ops.size false) σ) : AW C (.region i ops true) Q σ :=
  fun a w hs => wp_region_any hm (h a _ hs.drew)
theorem AWAny.done {ops : Array Oper} {listed : Array Bool} {fuel : Nat} (hr : Region.ready .any ops listed = []) (h : Q .normal σ) : AWAny C ops Q fuel listed σ := fun a w hs => wpAny_done hr ⟨σ, hs, h⟩ fuel
/-- Whichever of those that may come up comes up. -/
def AWOp (C : Cx) (ops : Array Oper) (Q : Exit → Sta → Prop) (i : Nat) (K : Sta → Prop) (σ : Sta) : Prop := ∀ a w, St C σ a w → ∀ K' : Act → World → Prop, (∀ σ' a' w', K σ' → St C σ' a' w' → K' a' w') → wpOp C.P ops (hat C Q) i K' a w
theorem AWAny.all {ops : Array Oper} {rs : List Nat} {fuel : Nat} {listed : Array Bool} (hr : Region.ready .any ops listed = rs) (hne : rs ≠ []) (h : ∀ i ∈ rs, AWOp C ops Q i (AWAny C ops Q fuel (listed.setIfInBounds i true)) σ) : AWAny C ops Q (fuel + 1) listed σ :=
  fun a w hs => wpAny_all hr hne fun i hi => h i hi a w hs _ fun σ' a' w' hk hs' => hk a' w' hs'
theorem AWOp.op {ops : Array Oper} {i : Nat} {o : Oper} {K : Sta → Prop} {x : AV} {T' : Sl} (hi : ops[i]? = some o) (hg : o.guard = none) (ho : opsOk o σ.n = true) (hj : OpJ C o (evA σ.env) σ.T x T') (h : K ⟨putE σ.env o.dst x, T', σ.n⟩) : AWOp C ops Q i K σ := by
  intro a w hs K' hK
  obtain ⟨hd, hn, S, vals, bss, hm, he⟩ := hs
  unfold wpOp
  simp only [hi, Region.wanted, hg, if_true]
  exact .inl (hj a w S vals bss hm (St.ops hn he ho) K' (fun v w' S' vals' bss' hm' hf hx => hK _ _ _ h (St.put hd hn he hm' hf hx)) _)
/-- A pure operation may be taken first. -/
theorem AWAny.take {ops : Array Oper} {i : Nat} {o : Oper} {x : AV} {fuel : Nat} {listed : Array Bool} (hi : ops[i]? = some o) (hs : Region.noSelect ops = true) (hf : Region.free .any ops listed i = true) (hr : (Region.ready .any ops listed).contains i = true)
    (hp : ∀ c σ, ¬ Q (.panic c) σ) (hg : o.guard = none) (ho : opsOk o σ.n = true) (hj : OpP C o (evA σ.env) σ.T x) (h : AWAny C ops Q fuel (listed.setIfInBounds i true) ⟨putE σ.env o.dst x, σ.T, σ.n⟩) : AWAny C ops Q (fuel + 1) listed σ := by
  intro a w hst
  obtain ⟨hd, hn, S, vals, bss, hm, he⟩ := hst
  obtain ⟨v, hv, hx⟩ := hj a w S vals bss hm (St.ops hn he ho)
  exact wpAny_take hi hs hf hr (fun c a w ⟨σ, _, hq⟩ => absurd hq (hp c σ)) (.inl ⟨by simp [Region.wanted, hg], hv⟩) (h _ _ (St.put hd hn he hm Follows.refl hx))
end
end Go.Proofs.Ytngfknoddphhaaa
