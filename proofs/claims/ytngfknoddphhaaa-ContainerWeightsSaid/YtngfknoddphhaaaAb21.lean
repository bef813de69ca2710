import Derived.Test.YtngfknoddphhaaaAb20
import Derived.StillTail
namespace Go.Proofs.Ytngfknoddphhaaa
open Go.RowKit
set_option linter.unusedSimpArgs false
set_option linter.unusedVariables false

/-! ### Regions that draw their order: a head that only reads, a tail in order -/
section
variable {P : Program} {ops : Array Oper} {md : Region.Mode} {D : World → Prop}
def wpAnyLQ (P : Program) (md : Region.Mode) (ops : Array Oper) (D : World → Prop) (n : Nat) (L : Array Bool → Act → Prop) : Nat → Array Bool → Act → Prop
  | 0, listed, a => L listed a
  | f + 1, listed, a =>
    Region.ready md ops listed ≠ [] ∧ ∀ i ∈ Region.ready md ops listed, i < n ∧ qOp P ops D i (wpAnyLQ P md ops D n L f (listed.setIfInBounds i true)) a
theorem wpAny_of_headQ {n g : Nat} {L : Array Bool → Act → Prop} {Q' : Exit → Act → World → Prop} (hL : ∀ listed a w, D w → L listed a → wpAny P md ops Q' g listed a w) :
    ∀ (f : Nat) (listed : Array Bool) (a : Act) (w : World), D w → wpAnyLQ P md ops D n L f listed a → wpAny P md ops Q' (f + g) listed a w
  | 0, listed, a, w, hw, h => by rw [Nat.zero_add]; exact hL _ _ _ hw h
  | f + 1, listed, a, w, hw, h => by
    rw [show f + 1 + g = (f + g) + 1 by omega]
    exact ⟨fun h0 => absurd h0 h.1, fun i hi => wpOp_of_qOp hw (fun a' w' hw' h' => wpAny_of_headQ hL f _ a' w' hw' h') (h.2 i hi).2⟩
theorem wpAnyLQ_first {n i : Nat} {oi : Oper} {v : Value} {L : Array Bool → Act → Prop} (hi : ops[i]? = some oi) (hsel : ∀ (j : Nat) (o : Oper) cs b, ops[j]? = some o → o.op ≠ .select cs b)
    (hs : Region.sinkB md ops n = true) (hc : Region.chainB md ops n = true) (hn : n < ops.size) (hin : i < n)
    (hdone : ∀ listed a, L listed a → ∀ j ∈ Region.ready md ops listed, n ≤ j) :
    ∀ (f : Nat) (listed : Array Bool) (a : Act), HeadInv md ops n listed →
      (∀ j oj, ops[j]? = some oj → j ≠ i → listed.getD j true = false → (∀ e ∈ oj.after, Region.binds md e = true → e.on ≠ i) → oi.apart ops oj = true) →
      i ∈ Region.ready md ops listed → YieldsIn P ops D oi v a →
      wpAnyLQ P md ops D n L f (listed.setIfInBounds i true) (a.put oi.dst v) → wpAnyLQ P md ops D n L (f + 1) listed a := by
  intro f
  induction f with
  | zero =>
    intro listed a inv _ hr hy H
    have hun := (mem_ready.1 hr).1
    refine ⟨fun h => (by rw [h] at hr; cases hr), fun j hj => ?_⟩
    have hjn : j < n := by
      rcases Nat.lt_or_ge j n with h | h
      · exact h
      · exact absurd hj (tail_waits hs hc hn inv _ i rfl hin hun j h)
    refine ⟨hjn, ?_⟩
    by_cases hji : j = i
    · subst hji; exact hy.qOp hi H
    · have := hdone _ _ H j (ready_mono hj hji)
      omega
  | succ f ih =>
    intro listed a inv hfree hr hy H
    have hun := (mem_ready.1 hr).1
    refine ⟨fun h => (by rw [h] at hr; cases hr), fun j hj => ?_⟩
    have hjn : j < n := by
      rcases Nat.lt_or_ge j n with h | h
      · exact h
      · exact absurd hj (tail_waits hs hc hn inv _ i rfl hin hun j h)
    refine ⟨hjn, ?_⟩
    by_cases hji : j = i
    · subst hji; exact hy.qOp hi H
    · have h1 := (H.2 j (ready_mono hj hji)).2
      obtain ⟨hjun, oj, hoj, hall⟩ := mem_ready.1 hj
      have hnot : ∀ e ∈ oj.after, Region.binds md e = true → e.on ≠ i := fun e he hb heq => by
        have h1 := hall e he hb
        rw [heq, getD_both hun] at h1
        cases h1
      have h2 := qOp_put hoj (hfree j oj hoj hji hjun hnot) (fun cs b => hsel i oi cs b hi) (fun cs b => hsel j oj cs b hoj) hy h1
      have hfree' : ∀ k ok, ops[k]? = some ok → k ≠ i → (listed.setIfInBounds j true).getD k true = false →
          (∀ e ∈ ok.after, Region.binds md e = true → e.on ≠ i) → oi.apart ops ok = true := fun k ok hk hki hun hno => by
        refine hfree k ok hk hki ?_ hno
        by_cases hjk : j = k
        · subst hjk; exact hjun
        · rw [getD_set_ne true hjk] at hun; exact hun
      refine qOp_mono (fun a' h3 => ih (listed.setIfInBounds j true) a' (inv.set hj hjn) hfree' (ready_mono hr (Ne.symm hji)) h3.1 ?_) h2
      rw [Array.setIfInBounds_comm _ _ hji]
      exact h3.2
theorem wpAnyLQ_lex {n g : Nat} {Lq : Act → Prop} (hsel : Region.noSelect ops = true) (hs : Region.sinkB md ops n = true) (hc : Region.chainB md ops n = true) (hn : n < ops.size) :
    ∀ (l : List Oper) (k : Nat) (listed : Array Bool) (a : Act), (∀ j, j < l.length → l[j]? = ops[k + j]?) → k + l.length = n → HeadInv md ops n listed →
    Region.lexHead md ops g l.length k listed = true → wpQuiet P ops D Lq l a →
    wpAnyLQ P md ops D n (fun listed' a' => Region.seqB md ops g n listed' = true ∧ Lq a') l.length listed a
  | [], k, listed, a, _, hk, _, hB, h => by
    have : k = n := by simpa using hk
    subst this
    exact ⟨by simpa [Region.lexHead] using hB, h⟩
  | o :: l, k, listed, a, hl, hk, inv, hB, h => by
    have h0 : ops[k]? = some o := by simpa using (hl 0 (by simp)).symm
    simp only [List.length_cons, Region.lexHead, Bool.and_eq_true] at hB
    obtain ⟨⟨hr, hf⟩, hB'⟩ := hB
    have hkn : k < n := by simp only [List.length_cons] at hk; omega
    have hr' : k ∈ Region.ready md ops listed := by simpa using hr
    have hst : qOp P ops D k (wpQuiet P ops D Lq l) a := by unfold qOp; simp only [h0]; exact h
    obtain ⟨v, hy, hK⟩ := yieldsIn_of_qOp h0 hst
    exact wpAnyLQ_first h0 (Region.noSelect_spec hsel) hs hc hn hkn (fun listed' a' hL => seqB_ready hL.1) l.length listed a inv (Region.free_spec h0 hf) hr' hy
      (wpAnyLQ_lex hsel hs hc hn l (k + 1) _ _ (fun j hj => by have := hl (j + 1) (by simp; omega); simpa [Nat.add_assoc, Nat.add_comm 1 j] using this) (by simp only [List.length_cons] at hk; omega) (inv.set hr' hkn) hB' hK)
theorem wp_region_quiet_tail {id : Nat} {Q : Exit → Act → World → Prop} {a : Act} {w : World} {l : List Oper} (n : Nat) (hm : P.follows .mixedOrders = true) (hB : Region.lexTailB .any l.toArray n = true) (hD : D w.drew)
    (h : wpQuiet P l.toArray D (fun a' => ∀ w', D w' → wpList P l.toArray Q (l.drop n) a' w') (l.take n) a) : (Code.region id l.toArray true).wp P Q a w := by
  simp only [Region.lexTailB, Bool.and_eq_true, decide_eq_true_eq] at hB
  obtain ⟨⟨⟨⟨hsel, hn⟩, hs⟩, hc⟩, hlex⟩ := hB
  have hn' : n < l.length := by simpa using hn
  have htl : (l.take n).length = n := by simp; omega
  have hdl : (l.drop n).length = l.toArray.size - n := by simp
  have inv0 : HeadInv .any l.toArray n (Array.replicate l.toArray.size false) :=
    ⟨by simp, fun j oj _ hl => (by rw [getD_replicate_false] at hl; cases hl), fun t _ ht => getD_in (by simpa using ht) (getD_replicate_false _ _)⟩
  have H := wpAnyLQ_lex (md := .any) (g := l.toArray.size - n) hsel hs hc hn (l.take n) 0 _ a (fun j hj => by
    have hj' : j < n := by rw [htl] at hj; exact hj
    simp [hj']) (by simpa using htl) inv0 (by rw [htl]; exact hlex) h
  refine wp_region_any hm ?_
  have := wpAny_of_headQ (Q' := Q) (g := l.toArray.size - n) (fun listed a' w' hw' hL => by
    have h2 := wpAny_of_seq (Q' := Q) (l.drop n) n listed a' w' (fun j => by simp) (by rw [hdl]; exact hL.1) (hL.2 w' hw')
    rwa [hdl] at h2) (l.take n).length (Array.replicate l.toArray.size false) a w.drew hD H
  have e : (l.take n).length + (l.toArray.size - n) = l.toArray.size := by rw [htl]; simp; omega
  rw [e] at this
  exact this
end
section
variable {C : Cx} {Q : Exit → Sta → Prop} {σ : Sta}
theorem AW.quiet_tail {i : Nat} {l : List Oper} (n : Nat) {l1 l2 : List Oper} (hm : C.P.follows .mixedOrders = true) (hB : Region.lexTailB .any l.toArray n = true) (h1 : l.take n = l1) (h2 : l.drop n = l2) (h : AQ C l.toArray (AWL C l.toArray Q l2) l1 σ) : AW C (.region i l.toArray true) Q σ := by
  subst h1
  subst h2
  intro a w ⟨hd, hn, S, vals, bss, hme, he⟩
  have hk : Kept (fun _ => True) w w.drew := (Kept.refl _ _).drew
  refine wp_region_quiet_tail (D := fun w' => Kept (fun _ => True) w w') n hm hB hk ?_
  refine wpQuiet_mono ?_ _ _ (h a w S vals bss ⟨hd, hn, hme, he⟩)
  rintro a' ⟨σ', hs, hq⟩ w' hk'
  exact hq a' w' (hs.grow hk').st
/-! ### Regions that draw their order: one operation after the other -/
theorem AW.drawn {i n : Nat} {l : List Oper} (hm : C.P.follows .mixedOrders = true) (hn : l.toArray.size = n) (h : AWAny C l.toArray Q n (Array.replicate n false) σ) : AW C (.region i l.toArray true) Q σ := by
  subst hn
  exact AW.region_any hm h
end
section
variable {C : Cx} {Q : Exit → Sta → Prop} {ops : Array Oper} {fuel : Nat} {listed : Array Bool} {o : Oper} {env : Nat → AV} {T T' : Sl} {n : Nat} {x : AV}
/-- A pure operation first. -/
theorem anP (i : Nat) (hi : ops[i]? = some o) (hj : OpP C o (evA env) T x) (hr : (Region.ready .any ops listed).contains i = true) (hf : Region.free .any ops listed i = true) (h : AWAny C ops Q fuel (listed.setIfInBounds i true) ⟨putE env o.dst x, T, n⟩)
    (hs : Region.noSelect ops = true := by rfl) (hp : ∀ c σ, ¬ Q (.panic c) σ := by exact fun _ _ h => h) (hg : o.guard = none := by rfl) (ho : opsOk o n = true := by rfl) : AWAny C ops Q (fuel + 1) listed ⟨env, T, n⟩ :=
  AWAny.take hi hs hf hr hp hg ho hj h
/-- The only operation that may come up. -/
theorem anJ (i : Nat) (hi : ops[i]? = some o) (hj : OpJ C o (evA env) T x T') (hr : Region.ready .any ops listed = [i]) (h : AWAny C ops Q fuel (listed.setIfInBounds i true) ⟨putE env o.dst x, T', n⟩) (hg : o.guard = none := by rfl) (ho : opsOk o n = true := by rfl) : AWAny C ops Q (fuel + 1) listed ⟨env, T, n⟩ :=
  AWAny.all hr (by simp) fun j hj' => by
    obtain rfl : j = i := by simpa using hj'
    exact AWOp.op hi hg ho hj h
theorem anR (i : Nat) (hi : ops[i]? = some o) (hj : OpR C o (evA env) T x) (hr : Region.ready .any ops listed = [i]) (h : AWAny C ops Q fuel (listed.setIfInBounds i true) ⟨putE env o.dst x, T, n⟩) (hg : o.guard = none := by rfl) (ho : opsOk o n = true := by rfl) : AWAny C ops Q (fuel + 1) listed ⟨env, T, n⟩ :=
  anJ i hi hj.j hr h hg ho
theorem anDone (hr : Region.ready .any ops listed = []) (h : Q .normal ⟨env, T, n⟩) : AWAny C ops Q fuel listed ⟨env, T, n⟩ := AWAny.done hr h
/-! ### Calls of a value -/
theorem op_valQ {f : FuncId} {p : Operand} {args : Array Operand} {ts : Array TypeId} {b : Bool} {ev : Operand → AV} {xs : List AV} {y : Value} (ho : o.op = .call { callee := .value p, args := args, argTypes := ts }) (hp : ev p = .v (.func (.func f) #[] #[])) (hf : Enters C.P f) (hsp : Fn C.P f [] xs [.v y] []) (hv : RL (View T b) (args.toList.map ev) xs) (hx : y.oneCell' = true) : OpQ C o ev T (.v y) := by
  intro a w S vals bss hm h
  refine ⟨y, fun w' hk => ?_, TmpOK.v_ hx⟩
  have hfv : a.eval p = .func (.func f) #[] #[] := by
    have := h p (by simp [ho, Op.operands, Call.operands])
    rw [hp] at this
    exact (show Rep C.P S w [] _ _ from this).v_inv.1
  have hargs : ∀ y ∈ args, TmpOK C.P S w' T vals (a.eval y) (ev y) := fun y hy => TmpOK.follows (Follows.kept hk (fun _ _ _ => trivial) fun _ h => h) (h y (by simp [ho, Op.operands, Call.operands]; exact .inr hy))
  have hc := hsp w' (lent b S bss) [] [] _ (came0 (hm.grow hk) hv hargs)
  have hrun : (execOp a.eval o).run C.P w' = .ok (.enter f (args.toList.map a.eval).toArray) w' := by
    have e1 : (args.map a.eval) = (args.toList.map a.eval).toArray := by apply Array.toList_inj.1; simp
    simp only [execOp, ho, resolve, hfv, Deferred.ofValue, Sem.run_bind, Sem.run_pure, Result.andThen_ok, invoke]
    rw [← e1]
    simpa using hf _ w'
  unfold Oper.quietAt
  rw [hrun]
  refine ⟨rfl, hc.mono ?_⟩
  rintro e w'' ⟨us, ys', outs, bsr, bss', rfl, went, rfl, rfl⟩
  have hk2 : Kept (fun _ => True) w' w'' := went.kept.mono fun k _ _ ⟨r, bs, h, _⟩ => by simp at h
  refine ⟨?_, hk.trans hk2⟩
  match us, went.nu with
  | [u], _ =>
    have hr := went.res 0 u (.v y) (bsr[0]'(by rw [went.nr]; simp)) rfl rfl (List.getElem?_eq_getElem _)
    rcases hr with h | ⟨_, h⟩
    · rw [retV, h.v_inv.1]
    · rw [retV, (show Rep C.P _ w'' [] u (.v y) from h).v_inv.1]
/-- A quiet operation, in a region in order. -/
theorem OpQ.j {ev : Operand → AV} (h : OpQ C o ev T x) : OpJ C o ev T x T := by
  intro a w S vals bss hm ho K hK Q
  obtain ⟨v, h1, h2⟩ := h a w S vals bss hm ho
  have := h1 w (Kept.refl _ _)
  refine Oper.wp_of_quiet (C := fun w'' => Kept (fun _ => True) w w'') (K := fun a' => a' = a.put o.dst v) (Kept.refl _ _) ?_ ⟨v, fun w' hw' => h1 w' hw', rfl⟩
  rintro a' w' hk rfl
  exact hK v w' S vals bss (hm.grow hk) (Follows.kept hk (fun _ _ _ => trivial) fun _ h => h) (TmpOK.follows (Follows.kept hk (fun _ _ _ => trivial) fun _ h => h) h2)
end
end Go.Proofs.Ytngfknoddphhaaa
