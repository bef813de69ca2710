import Derived.Test.YtngfknoddphhaaaAb19
namespace Go.Proofs.Ytngfknoddphhaaa
open Go.RowKit
set_option linter.unusedSimpArgs false
set_option linter.unusedVariables false

/-! ### Calls that lend a slot for writing -/
section
variable {C : Cx} {T : Sl} {S S2 : Nat → Prop} {vals : List Value} {bss : List (List Nat)} {w w' : World}
theorem Mem.set2 {r k : Nat} {x x' : AV} {v : Value} {bs bs' : List Nat} (hm : Mem C T S vals bss w) (hs : T.slots[r]? = some (k, x)) (hv : vals[r]? = some v) (hb : bss[r]? = some bs) (hk : Kept (fun q => q ∉ bs) w w')
    (h1S : ∀ q, S q → S2 q) (h2S : ∀ q, S2 q → S q ∨ ((w.heap.size ≤ q ∨ q ∈ bs) ∧ q < w'.heap.size ∧ q ∉ bs')) (hr : Rep C.P S2 w' bs' v x') (hn : bs'.Nodup) (hsub : ∀ b ∈ bs', b ∈ bs ∨ w.heap.size ≤ b)
    (ho : ∀ e es, x' = .own e es → ∃ es0, x = .own e es0 ∧ es0.length = es.length) (hom : ∀ b ks, x' = .om b ks → ∃ ks0, x = .om b ks0) :
    Mem C ⟨T.slots.set r (k, x'), T.ep⟩ S2 vals (bss.set r bs') w' ∧ Follows C.P S w T vals S2 w' ⟨T.slots.set r (k, x'), T.ep⟩ vals := by
  have hrl : r < T.slots.length := (List.getElem?_eq_some_iff.1 hs).1
  have hkS : ∀ q, q < w.heap.size → S q → q ∉ bs := fun q _ hq hqb => hm.apart r bs hb q hqb hq
  constructor
  · refine ⟨hm.kept.then hk fun q hq hq' hqb => ?_, fun q h => h1S q (hm.s0 q h), fun q h => ?_, fun q h => ?_, by simp [hm.nv], by simp [hm.nb], ?_, ?_, ?_, ?_, ?_, ?_, ?_, hm.pos⟩
    · rcases hm.mine r bs hb q hqb with h | h
      · exact hq' h
      · omega
    · rcases h2S q h with h | ⟨h | h, _⟩
      · exact hm.sub q h
      · have := hm.kept.size; exact .inr (.inr (by omega))
      · exact .inr (hm.mine r bs hb q h)
    · rcases h2S q h with h | ⟨_, h, _⟩
      · exact Nat.lt_of_lt_of_le (hm.lt q h) hk.size
      · exact h
    · intro q kq y u b1 h1 h2 h3
      rw [getElem?_set_ _ _ _ _ hrl] at h1
      rw [getElem?_set_ _ _ _ _ (by rw [hm.nb]; exact hrl)] at h3
      by_cases h : r = q
      · rw [if_pos h] at h1 h3
        subst h
        rw [hv] at h2
        injection h1 with h1; injection h1 with _ h1
        injection h2 with h2; injection h3 with h3
        subst h1; subst h2; subst h3
        exact hr
      · rw [if_neg h] at h1 h3
        exact ((hm.rep q kq y u b1 h1 h2 h3).kept hk hkS fun b hb' hbb => hm.disj r q bs b1 h hb h3 b hbb hb').mono fun q _ => h1S q
    · intro q b1 h3
      rw [getElem?_set_ _ _ _ _ (by rw [hm.nb]; exact hrl)] at h3
      split at h3
      · injection h3 with h3; subst h3; exact hn
      · exact hm.nodup q b1 h3
    · intro q q' b1 b2 hne h1 h2 b hb1 hb2
      rw [getElem?_set_ _ _ _ _ (by rw [hm.nb]; exact hrl)] at h1 h2
      split at h1
      · rename_i e1
        injection h1 with h1; subst h1
        rw [if_neg (fun e2 => hne (e1.symm.trans e2))] at h2
        rcases hsub b hb1 with h | h
        · exact hm.disj r q' bs b2 (fun e2 => hne (e1.symm.trans e2)) hb h2 b h hb2
        · have := hm.blt h2 b hb2; omega
      · rename_i e1
        split at h2
        · injection h2 with h2; subst h2
          rename_i e2
          rcases hsub b hb2 with h | h
          · exact hm.disj r q bs b1 e1 hb h1 b h hb1
          · have := hm.blt h1 b hb1; omega
        · exact hm.disj q q' b1 b2 hne h1 h2 b hb1 hb2
    · intro q b1 h1 b hb1 hSb
      rw [getElem?_set_ _ _ _ _ (by rw [hm.nb]; exact hrl)] at h1
      split at h1
      · injection h1 with h1; subst h1
        rcases h2S b hSb with hSb | ⟨_, _, h⟩
        · rcases hsub b hb1 with h | h
          · exact hm.apart r bs hb b h hSb
          · have := hm.lt b hSb; omega
        · exact h hb1
      · rename_i e1
        rcases h2S b hSb with hSb | ⟨h | h, _⟩
        · exact hm.apart q b1 h1 b hb1 hSb
        · have := hm.blt h1 b hb1; omega
        · exact hm.disj r q bs b1 e1 hb h1 b h hb1
    · intro q b1 h1 b hb1
      rw [getElem?_set_ _ _ _ _ (by rw [hm.nb]; exact hrl)] at h1
      split at h1
      · injection h1 with h1; subst h1
        rcases hsub b hb1 with h | h
        · exact hm.mine r bs hb b h
        · have := hm.kept.size; right; omega
      · exact hm.mine q b1 h1 b hb1
    · intro q y hlt h
      rw [getElem?_set_ _ _ _ _ hrl] at h
      split at h
      · rename_i e1
        injection h with h; injection h with h _
        subst e1
        exact hm.root r x hlt (by rw [hs, h])
      · exact hm.root q y hlt h
    · intro q kq y h
      rw [getElem?_set_ _ _ _ _ hrl] at h
      show kq < T.ep
      split at h
      · injection h with h; injection h with h _
        have := hm.ver r k x hs
        omega
      · exact hm.ver q kq y h
  · intro u y h
    have old : ∀ (q kq : Nat) (y' : AV), (T.slots.set r (k, x'))[q]? = some (kq, y') → T.slots[q]? = some (kq, y') ∨ (r = q ∧ kq = k ∧ x' = y') := fun q kq y' h => by
      rw [getElem?_set_ _ _ _ _ hrl] at h
      split at h
      · rename_i e1
        injection h with h; injection h with h h'
        exact .inr ⟨e1, h.symm, h'⟩
      · exact .inl h
    cases y with
    | sl q kq off len =>
      refine ⟨h.1, h.2.1, fun e es v2 sz h1 h2 h3 => ?_⟩
      rcases old q kq _ h1 with h4 | ⟨rfl, rfl, hx⟩
      · exact h.2.2 e es v2 sz h4 h2 h3
      · obtain ⟨es0, hx0, hl⟩ := ho e es hx
        rw [← hl]
        exact h.2.2 e es0 v2 sz (by rw [hs, hx0]) h2 h3
    | ptr q kq i j =>
      refine ⟨h.1, h.2.1, fun e es v2 sz h1 h2 h3 => ?_⟩
      rcases old q kq _ h1 with h4 | ⟨rfl, rfl, hx⟩
      · exact h.2.2 e es v2 sz h4 h2 h3
      · obtain ⟨es0, hx0, hl⟩ := ho e es hx
        rw [← hl]
        exact h.2.2 e es0 v2 sz (by rw [hs, hx0]) h2 h3
    | mp q kq =>
      refine ⟨h.1, h.2.1, fun b ks v2 h1 h2 => ?_⟩
      rcases old q kq _ h1 with h4 | ⟨rfl, rfl, hx⟩
      · exact h.2.2 b ks v2 h4 h2
      · obtain ⟨ks0, hx0⟩ := hom b ks hx
        exact h.2.2 b ks0 v2 (by rw [hs, hx0]) h2
    | _ => exact RefOK.kept (T := T) h hk hkS h1S
theorem unp_ok2 : ∀ (ys : List AV) (us : List Value) (bsr : List (List Nat)) (T : Sl) (vals : List Value) (bss : List (List Nat)), Mem C T S vals bss w → us.length = ys.length → bsr.length = ys.length →
    (∀ (i : Nat) (u : Value) (y : AV) (bs : List Nat), us[i]? = some u → ys[i]? = some y → bsr[i]? = some bs → Rep C.P S w bs u y ∨ (bs = [] ∧ AggOK C.P S w T vals u y)) →
    Own2 bsr → (∀ b, InL bsr b → ¬ InL bss b ∧ ¬ S b ∧ (b ∈ C.own0 ∨ C.w0.heap.size ≤ b)) →
    ∃ vals' bss', Mem C (unp ys T).2 S vals' bss' w ∧ Follows C.P S w T vals S w (unp ys T).2 vals' ∧ RL (AggOK C.P S w (unp ys T).2 vals') us (unp ys T).1
  | [], us, bsr, T, vals, bss, hm, h1, h2, _, _, _ => by
    have : us = [] := List.eq_nil_of_length_eq_zero h1
    subst this
    exact ⟨vals, bss, hm, Follows.refl, RL.nil⟩
  | y :: ys, [], _, _, _, _, _, h1, _, _, _, _ => by simp at h1
  | y :: ys, u :: us, [], _, _, _, _, _, h2, _, _, _ => by simp at h2
  | y :: ys, u :: us, bs :: bsr, T, vals, bss, hm, h1, h2, h3, h4, h5 => by
    have hd := h3 0 u y bs rfl rfl rfl
    have htl : ∀ (i : Nat) (u : Value) (y : AV) (b : List Nat), us[i]? = some u → ys[i]? = some y → bsr[i]? = some b → Rep C.P S w b u y ∨ (b = [] ∧ AggOK C.P S w T vals u y) := fun i u y b q1 q2 q3 => h3 (i + 1) u y b (by simpa using q1) (by simpa using q2) (by simpa using q3)
    have hown : Own2 bsr := ⟨fun r b h => h4.nodup (r + 1) b (by simpa using h), fun r r' b b' hne q1 q2 => h4.disj (r + 1) (r' + 1) b b' (by omega) (by simpa using q1) (by simpa using q2)⟩
    have hin : ∀ b, InL bsr b → InL (bs :: bsr) b := fun b ⟨r, b1, q1, q2⟩ => ⟨r + 1, b1, by simpa using q1, q2⟩
    have plain : (∀ e es, y ≠ .own e es) → AggOK C.P S w T vals u y ∧ bs = bs → ∃ vals' bss', Mem C (unp (y :: ys) T).2 S vals' bss' w ∧ Follows C.P S w T vals S w (unp (y :: ys) T).2 vals' ∧ RL (AggOK C.P S w (unp (y :: ys) T).2 vals') (u :: us) (unp (y :: ys) T).1 := by
      intro hne ⟨ha, _⟩
      obtain ⟨vals', bss', g1, g2, g3⟩ := unp_ok2 ys us bsr T vals bss hm (by simpa using h1) (by simpa using h2) htl hown fun b hb => h5 b (hin b hb)
      have e : unp (y :: ys) T = (y :: (unp ys T).1, (unp ys T).2) := by
        cases y <;> first | rfl | (exact absurd rfl (hne _ _))
      rw [e]
      exact ⟨vals', bss', g1, g2, RL.cons (AggOK.follows g2 ha) g3⟩
    by_cases ho : ∃ e es, y = .own e es
    · obtain ⟨e, es, rfl⟩ := ho
      have hrep : ∃ b0, Rep C.P S w b0 u (.own e es) ∧ b0.Nodup ∧ (∀ b ∈ b0, b ∈ bs) := by
        rcases hd with h | ⟨rfl, h⟩
        · exact ⟨bs, h, h4.nodup 0 bs rfl, fun b h => h⟩
        · exact ⟨[], h, by simp, by simp⟩
      obtain ⟨b0, hr, hnd, hsub⟩ := hrep
      obtain ⟨hm', hf⟩ := hm.push2 hr hnd fun b hb => h5 b ⟨0, bs, rfl, hsub b hb⟩
      obtain ⟨vals', bss', g1, g2, g3⟩ := unp_ok2 ys us bsr (pushT T (.own e es)) (vals ++ [u]) (bss ++ [b0]) hm' (by simpa using h1) (by simpa using h2) (fun i u y b q1 q2 q3 => (htl i u y b q1 q2 q3).imp id fun h => ⟨h.1, AggOK.follows hf h.2⟩) hown fun b hb => by
        obtain ⟨q1, q2, q3⟩ := h5 b (hin b hb)
        refine ⟨fun ⟨r, b1, p1, p2⟩ => ?_, q2, q3⟩
        rw [getElem?_snoc] at p1
        split at p1
        · exact q1 ⟨r, b1, p1, p2⟩
        · split at p1
          · injection p1 with p1
            subst p1
            obtain ⟨r', b2, p3, p4⟩ := hb
            exact h4.disj 0 (r' + 1) bs b2 (by omega) rfl (by simpa using p3) b (hsub b p2) p4
          · cases p1
      refine ⟨vals', bss', g1, fun u x h => g2 u x (hf u x h), RL.cons ?_ g3⟩
      have hp := push_sl (C := C) (S := S) (T := T) hm.nv hr
      exact AggOK.follows g2 (show AggOK C.P S w _ _ u (.sl T.slots.length T.ep 0 es.length) from hp)
    · refine plain (fun e es h => ho ⟨e, es, h⟩) ⟨?_, rfl⟩
      rcases hd with h | ⟨rfl, h⟩
      · cases h with
        | own => exact absurd ⟨_, _, rfl⟩ ho
        | any h => trivial
        | v h => exact Rep.v h
        | sln a b => exact Rep.sln a b
        | ro a b c d e f => exact Rep.ro a b c d e f
        | rof a b c d e => exact Rep.rof a b c d e
        | rop a b c => exact Rep.rop a b c
      · exact h
/-- References to the callee's slot 0 are references to the caller's slot. -/
def ren1 (r k : Nat) : AV → AV
  | .sl _ _ off len => .sl r k off len
  | .ptr _ _ i j => .ptr r k i j
  | .mp _ _ => .mp r k
  | x => x
def renA (r k : Nat) : AV → AV
  | .agg cs => .agg (cs.map (ren1 r k))
  | x => ren1 r k x
theorem ren1_ok {P : Program} {x : AV} {T' : Sl} {vals' : List Value} {v : Value} {r k : Nat} (hs : T'.slots[r]? = some (k, x)) (hv : vals'[r]? = some v) (hk : k < T'.ep) {u : Value} {y : AV} (h : RefOK P S w (insT [x]) [v] u y) (hc : clo1 1 y = true) : RefOK P S w T' vals' u (ren1 r k y) := by
  cases y with
  | sl q kq off len =>
    simp only [clo1, Bool.and_eq_true, beq_iff_eq, decide_eq_true_eq] at hc
    obtain ⟨hc1, rfl⟩ := hc
    obtain rfl : q = 0 := by omega
    refine ⟨hk, h.2.1, fun e es v2 sz h1 h2 h3 => ?_⟩
    rw [hs] at h1; injection h1 with h1; injection h1 with _ h1
    rw [hv] at h2; injection h2 with h2
    subst h2
    exact h.2.2 e es v sz (by rw [h1]; rfl) rfl h3
  | ptr q kq i j =>
    simp only [clo1, Bool.and_eq_true, beq_iff_eq, decide_eq_true_eq] at hc
    obtain ⟨hc1, rfl⟩ := hc
    obtain rfl : q = 0 := by omega
    refine ⟨hk, h.2.1, fun e es v2 sz h1 h2 h3 => ?_⟩
    rw [hs] at h1; injection h1 with h1; injection h1 with _ h1
    rw [hv] at h2; injection h2 with h2
    subst h2
    exact h.2.2 e es v sz (by rw [h1]; rfl) rfl h3
  | mp q kq =>
    simp only [clo1, Bool.and_eq_true, beq_iff_eq, decide_eq_true_eq] at hc
    obtain ⟨hc1, rfl⟩ := hc
    obtain rfl : q = 0 := by omega
    refine ⟨hk, h.2.1, fun b ks v2 h1 h2 => ?_⟩
    rw [hs] at h1; injection h1 with h1; injection h1 with _ h1
    rw [hv] at h2; injection h2 with h2
    subst h2
    exact h.2.2 b ks v (by rw [h1]; rfl) rfl
  | _ => exact h
theorem renA_ok {P : Program} {x : AV} {T' : Sl} {vals' : List Value} {v : Value} {r k : Nat} (hs : T'.slots[r]? = some (k, x)) (hv : vals'[r]? = some v) (hk : k < T'.ep) {u : Value} {y : AV} (h : AggOK P S w (insT [x]) [v] u y) (hc : cloA 1 y = true) : AggOK P S w T' vals' u (renA r k y) := by
  cases y with
  | any => trivial
  | agg cs =>
    obtain ⟨us, e, rl⟩ := h
    simp only [cloA, List.all_eq_true] at hc
    refine ⟨us, e, by simp [rl.1], fun i u x hu hx => ?_⟩
    rw [List.getElem?_map] at hx
    cases hq : cs[i]? with
    | none => rw [hq] at hx; cases hx
    | some c =>
      rw [hq] at hx
      simp only [Option.map_some, Option.some.injEq] at hx
      subst hx
      exact ren1_ok hs hv hk (rl.2 i u c hu hq) (hc c (List.mem_of_getElem? hq))
  | _ => simp only [AggOK, renA, ren1] at h ⊢; exact ren1_ok hs hv hk h hc
theorem Rep.ren {P : Program} {bs : List Nat} {u : Value} {y : AV} (h : Rep P S w bs u y) (r k : Nat) : Rep P S w bs u (renA r k y) := by
  cases y with
  | agg cs => exact absurd rfl (h.plain cs).1
  | sl => cases h
  | ptr => cases h
  | mp => cases h
  | _ => exact h
/-- What an argument is lent as, slot r being lent for writing. -/
inductive View1 (T : Sl) (r k : Nat) : AV → AV → Prop
  | base {y x} (h : View T false y x) : View1 T r k y x
  | ptr {i j} : View1 T r k (.ptr r k i j) (.ptr 0 0 i j)
  | sl {off len} : View1 T r k (.sl r k off len) (.sl 0 0 off len)
variable {o : Oper} {ev : Operand → AV}
theorem view1_ok (hm : Mem C T S vals bss w) {r k : Nat} {x0 : AV} {v : Value} (hs : T.slots[r]? = some (k, x0)) (hv : vals[r]? = some v) {y x : AV} (h : View1 T r k y x) {u : Value} (hu : TmpOK C.P S w T vals u y) : AggOK C.P S w (insT [x0]) [v] u x := by
  have low : ∀ (q kq : Nat) (z : AV), (insT [x0]).slots[q]? = some (kq, z) → q = 0 ∧ kq = 0 ∧ z = x0 := fun q kq z h => by
    cases q with
    | zero => simp [insT] at h; exact ⟨rfl, h.1.symm, h.2.symm⟩
    | succ q => simp [insT] at h
  cases h with
  | base h =>
    have h1 := view_ok hm h hu
    have h2 : AggOK C.P S w (insT []) [] u x := by
      have hl : ∀ k, lent false S bss k → S k := fun k h => h.resolve_right (by simp)
      cases x with
      | any => trivial
      | agg cs => obtain ⟨us, e, rl⟩ := h1; exact ⟨us, e, rl.mono fun u x h => RefOK.kept h (Kept.refl (fun _ => True) w) (fun _ _ _ => trivial) hl⟩
      | _ => simp only [AggOK] at h1 ⊢; exact RefOK.kept h1 (Kept.refl (fun _ => True) w) (fun _ _ _ => trivial) hl
    have hn : nrefA x = true := by
      cases h with
      | same h => exact h
      | nil => rfl
      | rof => rfl
    exact h2.nref hn fun _ h => h
  | ptr =>
    refine ⟨by simp [insT], hu.2.1, fun e es v2 sz h1 h2 h3 => ?_⟩
    obtain ⟨_, _, q⟩ := low _ _ _ h1
    have h2 : some v = some v2 := h2
    injection h2 with h2
    subst h2
    exact hu.2.2 e es v sz (by rw [hs, q]) hv h3
  | sl =>
    refine ⟨by simp [insT], hu.2.1, fun e es v2 sz h1 h2 h3 => ?_⟩
    obtain ⟨_, _, q⟩ := low _ _ _ h1
    have h2 : some v = some v2 := h2
    injection h2 with h2
    subst h2
    exact hu.2.2 e es v sz (by rw [hs, q]) hv h3
theorem op_call1 {f : FuncId} {args : Array Operand} {ts : Array TypeId} {r k : Nat} {x0 x1 : AV} {xs ys : List AV} (ho : o.op = .call { callee := .value (.func f), args := args, argTypes := ts }) (hf : Enters C.P f) (hsp : Fn C.P f [x0] xs ys [x1]) (hs : T.slots[r]? = some (k, x0)) (hv : RL (View1 T r k) (args.toList.map ev) xs)
    (hx1 : ∃ e es es', x0 = .own e es ∧ x1 = .own e es' ∧ es.length = es'.length) (hn : ys.all (cloA 1) = true) {x : AV} {T' : Sl} (hx : packR (unp (ys.map (renA r k)) ⟨T.slots.set r (k, x1), T.ep⟩).1 = x) (hT : (unp (ys.map (renA r k)) ⟨T.slots.set r (k, x1), T.ep⟩).2 = T') : OpJ C o ev T x T' := by
  intro a w S vals bss hm h K hK Q
  have hrl : r < T.slots.length := (List.getElem?_eq_some_iff.1 hs).1
  have hargs : ∀ y ∈ args, TmpOK C.P S w T vals (a.eval y) (ev y) := fun y hy => h y (by simp [ho, Op.operands, Call.operands]; exact .inr hy)
  obtain ⟨v, bs, hvr, hbr, hrep⟩ := hm.slot hs
  have hcame : Came C.P [x0] xs w S [v] [bs] (args.toList.map a.eval) := by
    refine ⟨hm.lt, rfl, rfl, fun q x u b h1 h2 h3 => ?_, ⟨fun q b h1 => ?_, fun q q' b b' hne h1 h2 => ?_⟩, fun b ⟨q, b1, h1, h2⟩ => ?_, by have := hv.1; simpa using this, fun i u x h1 h2 => ?_⟩
    · cases q with
      | zero => simp at h1 h2 h3; subst h1; subst h2; subst h3; exact hrep
      | succ q => simp at h1
    · cases q with
      | zero => simp at h1; subst h1; exact hm.nodup r _ hbr
      | succ q => simp at h1
    · cases q with
      | zero => cases q' with
        | zero => exact absurd rfl hne
        | succ q' => simp at h2
      | succ q => simp at h1
    · cases q with
      | zero => simp at h1; subst h1; exact hm.apart r _ hbr b h2
      | succ q => simp at h1
    · rw [List.getElem?_map] at h1
      cases hq : args.toList[i]? with
      | none => rw [hq] at h1; cases h1
      | some y =>
        rw [hq] at h1
        simp only [Option.map_some, Option.some.injEq] at h1
        subst h1
        exact view1_ok hm hs hvr (hv.2 i (ev y) x (by rw [List.getElem?_map, hq]; rfl) h2) (hargs y (Array.mem_toList_iff.1 (List.mem_of_getElem? hq)))
  have hc := hsp w S [v] [bs] _ hcame
  have hrun : (execOp a.eval o).run C.P w = .ok (.enter f (args.toList.map a.eval).toArray) w := by
    have e1 : (args.map a.eval) = (args.toList.map a.eval).toArray := by apply Array.toList_inj.1; simp
    simp only [execOp, ho, resolve, Act.eval, Deferred.ofValue, Sem.run_bind, Sem.run_pure, Result.andThen_ok, invoke]
    rw [← e1]
    simpa using hf _ w
  unfold Oper.wp
  rw [hrun, Oper.upon_enter]
  refine hc.mono ?_
  rintro e w' ⟨us, ys', outs, bsr, bss', rfl, went, rfl, rfl⟩
  simp only
  obtain ⟨bs', rfl⟩ : ∃ b, bss' = [b] := by
    match bss', went.nb with
    | [b], _ => exact ⟨b, rfl⟩
  have hin1 : ∀ (b : List Nat) (q : Nat), InL [b] q ↔ q ∈ b := fun b q => by
    constructor
    · rintro ⟨i, b1, h1, h2⟩
      cases i with
      | zero => simp at h1; subst h1; exact h2
      | succ i => simp at h1
    · intro h; exact ⟨0, b, rfl, h⟩
  have hk : Kept (fun q => q ∉ bs) w w' := went.kept.mono fun q _ h h' => h ((hin1 _ _).1 h')
  have hinR : ∀ q, InL bsr q → InL (bsr ++ [bs']) q := fun q ⟨i, b, h1, h2⟩ => ⟨i, b, by rw [List.getElem?_append_left (List.getElem?_eq_some_iff.1 h1).1]; exact h1, h2⟩
  have hinS : ∀ q, q ∈ bs' → InL (bsr ++ [bs']) q := fun q h => ⟨bsr.length, bs', by simp, h⟩
  have hown' := went.own
  have hownR : Own2 bsr := ⟨fun i b h => hown'.nodup i b (by rw [List.getElem?_append_left (List.getElem?_eq_some_iff.1 h).1]; exact h), fun i j b b' hne h1 h2 => hown'.disj i j b b' hne (by rw [List.getElem?_append_left (List.getElem?_eq_some_iff.1 h1).1]; exact h1) (by rw [List.getElem?_append_left (List.getElem?_eq_some_iff.1 h2).1]; exact h2)⟩
  have hmine : ∀ q, InL (bsr ++ [bs']) q → w.heap.size ≤ q ∨ q ∈ bs := fun q h => (went.mine q h).imp id (hin1 _ _).1
  obtain ⟨e0, es, es', rfl, rfl, hle⟩ := hx1
  obtain ⟨hm2, hf2⟩ := hm.set2 (S2 := After S w w' [bs] (bsr ++ [bs'])) (x' := .own e0 es') (bs' := bs') hs hvr hbr hk (fun q h => .inl h) (fun q h => h.imp id fun ⟨h1, h2, h3⟩ => ⟨h1.imp id (hin1 _ _).1, h2, fun h => h3 (hinS q h)⟩)
    (went.rep 0 _ v bs' rfl rfl rfl) (hown'.nodup bsr.length bs' (by simp)) (fun q h => (hmine q (hinS q h)).symm) (fun e es2 h => by injection h with h1 h2; subst h1; subst h2; exact ⟨es, rfl, hle⟩) (fun b ks h => by cases h)
  have hs2 : (T.slots.set r (k, AV.own e0 es'))[r]? = some (k, .own e0 es') := by simp [hrl]
  have hcl : ∀ (i : Nat) (y : AV), ys'[i]? = some y → cloA 1 y = true := fun i y h => List.all_eq_true.1 hn y (List.mem_of_getElem? h)
  obtain ⟨vals', bss'', g1, g2, g3⟩ := unp_ok2 (ys'.map (renA r k)) us bsr _ vals _ hm2 (by simp [went.nu]) (by simp [went.nr]) (fun i u y b q1 q2 q3 => by
    rw [List.getElem?_map] at q2
    cases hq : ys'[i]? with
    | none => rw [hq] at q2; cases q2
    | some y0 =>
      rw [hq] at q2
      simp only [Option.map_some, Option.some.injEq] at q2
      subst q2
      rcases went.res i u y0 b q1 hq q3 with h | ⟨h1, h2⟩
      · exact .inl (h.ren r k)
      · exact .inr ⟨h1, renA_ok (T' := ⟨T.slots.set r (k, .own e0 es'), T.ep⟩) hs2 hvr (hm.ver r k _ hs) h2 (hcl i y0 hq)⟩) hownR (fun q hq => by
      refine ⟨fun ⟨i, b, h1, h2⟩ => ?_, fun h => ?_, ?_⟩
      · rw [getElem?_set_ _ _ _ _ (by rw [hm.nb]; exact hrl)] at h1
        obtain ⟨j, bj, h3, h4⟩ := hq
        split at h1
        · injection h1 with h1; subst h1
          refine hown'.disj j bsr.length bj bs' ?_ (by rw [List.getElem?_append_left (List.getElem?_eq_some_iff.1 h3).1]; exact h3) (by simp) q h4 h2
          have := (List.getElem?_eq_some_iff.1 h3).1; omega
        · rename_i hne
          rcases hmine q (hinR q ⟨j, bj, h3, h4⟩) with h | h
          · have := hm.blt h1 q h2; omega
          · exact hm.disj r i bs b hne hbr h1 q h h2
      · rcases h with h | ⟨_, _, h⟩
        · rcases hmine q (hinR q hq) with h' | h'
          · have := hm.lt q h; omega
          · exact hm.apart r bs hbr q h' h
        · exact h (hinR q hq)
      · rcases hmine q (hinR q hq) with h | h
        · have := hm.kept.size; exact .inr (by omega)
        · exact hm.mine r bs hbr q h)
  subst hT
  refine hK _ _ _ _ _ g1 (fun u x h => g2 u x (hf2 u x h)) ?_
  subst hx
  match us, hz : (unp (ys'.map (renA r k)) ⟨T.slots.set r (k, .own e0 es'), T.ep⟩).1, g3 with
  | [], zs, rl =>
    have : zs = [] := List.eq_nil_of_length_eq_zero rl.1.symm
    subst this
    exact ⟨#[], rfl, RL.nil⟩
  | [u], zs, rl =>
    obtain ⟨z, rfl⟩ : ∃ z, zs = [z] := by
      match zs, rl.1 with
      | [z], _ => exact ⟨z, rfl⟩
    have := rl.2 0 u z rfl rfl
    cases z with
    | tup cs => exact absurd rfl (Rep.plain (show Rep _ _ _ _ _ (.tup cs) from this) cs).2
    | _ => exact this
  | u :: u2 :: us, zs, rl =>
    obtain ⟨z1, z2, zs', rfl⟩ : ∃ z1 z2 zs', zs = z1 :: z2 :: zs' := by
      match zs, rl.1 with
      | z1 :: z2 :: zs', _ => exact ⟨z1, z2, zs', rfl⟩
    exact ⟨_, rfl, by simpa using rl⟩
end
end Go.Proofs.Ytngfknoddphhaaa
