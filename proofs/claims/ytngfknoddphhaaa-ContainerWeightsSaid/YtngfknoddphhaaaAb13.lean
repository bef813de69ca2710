import Derived.Test.YtngfknoddphhaaaAb12
namespace Go.Proofs.Ytngfknoddphhaaa
open Go.RowKit
set_option linter.unusedSimpArgs false
set_option linter.unusedVariables false

/-! ### Contracts -/
def retV (us : List Value) : Value := match us with | [u] => u | us => .tuple us.toArray
def insT (ins : List AV) : Sl := ⟨ins.map fun x => (0, x), 1⟩
/-- Blocks, list by list, of which no two share one. -/
structure Own2 (bss : List (List Nat)) : Prop where
  nodup : ∀ (r : Nat) (bs : List Nat), bss[r]? = some bs → bs.Nodup
  disj : ∀ (r r' : Nat) (bs bs' : List Nat), r ≠ r' → bss[r]? = some bs → bss[r']? = some bs' → ∀ b ∈ bs, b ∉ bs'
def InL (bss : List (List Nat)) (b : Nat) : Prop := ∃ (r : Nat) (bs : List Nat), bss[r]? = some bs ∧ b ∈ bs
/-- What may be read for good behind a call. -/
def After (S : Nat → Prop) (w w' : World) (bss own : List (List Nat)) : Nat → Prop := fun k => S k ∨ ((w.heap.size ≤ k ∨ InL bss k) ∧ k < w'.heap.size ∧ ¬ InL own k)
structure Came (P : Program) (ins xs : List AV) (w : World) (S : Nat → Prop) (vals : List Value) (bss : List (List Nat)) (vs : List Value) : Prop where
  lt : ∀ k, S k → k < w.heap.size
  nv : vals.length = ins.length
  nb : bss.length = ins.length
  rep : ∀ (r : Nat) (x : AV) (v : Value) (bs : List Nat), ins[r]? = some x → vals[r]? = some v → bss[r]? = some bs → Rep P S w bs v x
  own : Own2 bss
  apart : ∀ b, InL bss b → ¬ S b
  args : RL (AggOK P S w (insT ins) vals) vs xs
structure Went (P : Program) (w : World) (S : Nat → Prop) (vals : List Value) (bss : List (List Nat)) (w' : World) (us : List Value) (ys outs : List AV) (bsr bss' : List (List Nat)) : Prop where
  kept : Kept (fun k => ¬ InL bss k) w w'
  nu : us.length = ys.length
  nr : bsr.length = ys.length
  no : outs.length = vals.length
  nb : bss'.length = vals.length
  res : ∀ (i : Nat) (u : Value) (y : AV) (bs : List Nat), us[i]? = some u → ys[i]? = some y → bsr[i]? = some bs → Rep P (After S w w' bss (bsr ++ bss')) w' bs u y ∨ (bs = [] ∧ AggOK P (After S w w' bss (bsr ++ bss')) w' (insT outs) vals u y)
  rep : ∀ (r : Nat) (x : AV) (v : Value) (bs : List Nat), outs[r]? = some x → vals[r]? = some v → bss'[r]? = some bs → Rep P (After S w w' bss (bsr ++ bss')) w' bs v x
  own : Own2 (bsr ++ bss')
  mine : ∀ b, InL (bsr ++ bss') b → w.heap.size ≤ b ∨ InL bss b
def Spec (P : Program) (f : FuncId) (ins xs : List AV) (Q : List AV → List AV → Prop) : Prop :=
  ∀ (w : World) (S : Nat → Prop) (vals : List Value) (bss : List (List Nat)) (vs : List Value), Came P ins xs w S vals bss vs →
    Calls P f vs.toArray w fun e w' => ∃ us ys outs bsr bss', e = .returned (retV us) ∧ Went P w S vals bss w' us ys outs bsr bss' ∧ Q ys outs
theorem Spec.mono {P : Program} {f : FuncId} {ins xs : List AV} {Q Q' : List AV → List AV → Prop} (h : Spec P f ins xs Q) (hq : ∀ ys outs, Q ys outs → Q' ys outs) : Spec P f ins xs Q' := fun w S vals bss vs hc =>
  (h w S vals bss vs hc).mono fun e w' ⟨us, ys, outs, bsr, bss', h1, h2, h3⟩ => ⟨us, ys, outs, bsr, bss', h1, h2, hq _ _ h3⟩

/-- What a result variable holds. -/
def ResIs (P : Program) (σ : Sta) : ResultVar → AV → Prop
  | .tmp t, z => t < σ.n ∧ σ.env t = z
  | .cell t ty, z => t < σ.n ∧ ∃ r k i j e es row, σ.env t = .ptr r k i j ∧ σ.T.slots[r]? = some (k, .own e es) ∧ es[i]? = some row ∧
      ((aggB P ty = some true ∧ ∃ n, sizeIs P ty n ∧ j + n ≤ row.length ∧ ((row.drop j).take n).map ldc = (match z with | .agg cs => cs | _ => [.any]) ∧ (∃ cs, z = .agg cs)) ∨ (aggB P ty = some false ∧ ∃ x, row[j]? = some x ∧ ldc x = z))
def clo1 (n0 : Nat) : AV → Bool
  | .sl r k _ _ => r < n0 && k == 0
  | .ptr r k _ _ => r < n0 && k == 0
  | .mp r k => r < n0 && k == 0
  | .tup _ => false
  | _ => true
def cloA (n0 : Nat) : AV → Bool
  | .agg cs => cs.all (clo1 n0)
  | x => clo1 n0 x
inductive Gives (T : Sl) (n0 : Nat) : List Nat → List AV → List AV → Prop
  | nil : Gives T n0 [] [] []
  | keep {used zs ys z} (hc : cloA n0 z = true) (h : Gives T n0 used zs ys) : Gives T n0 used (z :: zs) (z :: ys)
  | own {used zs ys r k e es len} (hT : T.slots[r]? = some (k, .own e es)) (hl : len = es.length) (hr : n0 ≤ r) (hu : r ∉ used) (h : Gives T n0 used zs ys) : Gives T n0 (r :: used) (.sl r k 0 len :: zs) (.own e es :: ys)
/-- What is to be shown at the end of a body. -/
def RQ (P : Program) (fn : Func) (n0 : Nat) (Q : List AV → List AV → Prop) : Exit → Sta → Prop
  | .normal, σ | .ret, σ => ∃ zs ys used outs, RL (ResIs P σ) fn.results.toList zs ∧ Gives σ.T n0 used zs ys ∧ outs.length = n0 ∧ (∀ (r : Nat) (x : AV), outs[r]? = some x → σ.T.slots[r]? = some (0, x)) ∧ Q ys outs
  | _, _ => False
def resOf (tmps : Array Value) : ResultVar → Sem Value
  | .tmp t => pure (tmps.getD t undef)
  | .cell b t => do loadVar t (← asAddr (tmps.getD b undef))
theorem mapM_run {P : Program} {w : World} {tmps : Array Value} {r : ResultVar} {rs : List ResultVar} {v : Value} {us : List Value} (h : (resOf tmps r).run P w = .ok v w) (h' : (rs.mapM (resOf tmps)).run P w = .ok us w) : ((r :: rs).mapM (resOf tmps)).run P w = .ok (v :: us) w := by
  simp only [List.mapM_cons, Sem.run_bind, h, h', Result.andThen_ok, Sem.run_pure]
theorem res_run {C : Cx} {σ : Sta} {a : Act} {w : World} {S : Nat → Prop} {vals : List Value} {bss : List (List Nat)} (hs : StI C σ a w S vals bss) : ∀ (rs : List ResultVar) (zs : List AV), RL (ResIs C.P σ) rs zs →
    ∃ us, (rs.mapM (resOf a.tmps)).run C.P w = .ok us w ∧ RL (TmpOK C.P S w σ.T vals) us zs
  | [], zs, h => by
    have : zs = [] := List.eq_nil_of_length_eq_zero h.1.symm
    subst this
    exact ⟨[], by simp, RL.nil⟩
  | r :: rs, [], h => by have := h.1; simp at this
  | r :: rs, z :: zs, h => by
    obtain ⟨r', rs', e, hr, h'⟩ := h.cons_inv
    injection e with e1 e2
    subst e1; subst e2
    obtain ⟨us, h1, h2⟩ := res_run hs rs zs h'
    obtain ⟨hd, hn, hm, he⟩ := hs
    cases r with
    | tmp t =>
      obtain ⟨q1, q2⟩ := hr
      have := he t q1
      rw [q2] at this
      exact ⟨_ :: us, mapM_run rfl h1, RL.cons this h2⟩
    | cell t ty =>
      obtain ⟨q1, rr, k, i, j, e, es, row, q2, q3, q4, q5⟩ := hr
      have hp := he t q1
      rw [q2] at hp
      obtain ⟨g, oo, e1, hc⟩ := ptr_cells hm q3 hp q4
      rcases q5 with ⟨g1, n, g2, g3, g4, cs, rfl⟩ | ⟨g1, x, g2, g3⟩
      · simp only at g4
        have hget : ∀ q, q < n → ∃ x c, row[j + q]? = some x ∧ w.cell? ⟨g, oo + q, none⟩ = some c ∧ Rep C.P S w [] c (ldc x) := fun q hq => by
          have hx := List.getElem?_eq_getElem (l := row) (i := j + q) (by omega)
          obtain ⟨c, bs, h3, h4⟩ := hc q _ hx
          exact ⟨_, c, hx, h3, h4.ldc⟩
        obtain ⟨cells, hul, hus⟩ : ∃ us : List Value, us.length = n ∧ ∀ q u, us[q]? = some u → w.cell? ⟨g, oo + q, none⟩ = some u := by
          refine ⟨(List.range n).map fun q => (w.cell? ⟨g, oo + q, none⟩).getD undef, by simp, fun q u hu => ?_⟩
          have hq : q < n := by have := (List.getElem?_eq_some_iff.1 hu).1; simpa using this
          obtain ⟨x, c, _, h3, _⟩ := hget q hq
          simp [hq, h3] at hu
          rw [h3, hu]
        have hl := run_loadVar (P := C.P) g1 g2 ⟨g, oo, none⟩ cells hul w fun q u hu => by rw [add_off]; exact hus q u hu
        refine ⟨.agg cells.toArray :: us, mapM_run (by simp only [resOf, Sem.run_bind, e1, asAddr, Sem.run_pure, Result.andThen_ok, hl]) h1, RL.cons ⟨_, rfl, ?_⟩ h2⟩
        rw [← g4]
        refine ⟨by simp [hul]; omega, fun q u x hu hx => ?_⟩
        simp only at hu
        rw [List.getElem?_map, List.getElem?_take] at hx
        have hq : q < n := by have := (List.getElem?_eq_some_iff.1 hu).1; omega
        rw [if_pos hq, List.getElem?_drop] at hx
        obtain ⟨x', c, p2, p3, p4⟩ := hget q hq
        rw [p2] at hx
        simp at hx
        subst hx
        have := hus q u hu
        rw [p3] at this
        injection this with this
        subst this
        exact Rep.ref p4
      · obtain ⟨c, bs, p3, p4⟩ := hc 0 x (by simpa using g2)
        have hl := run_loadOne (P := C.P) g1 ⟨g, oo, none⟩ c w (by simpa using p3)
        refine ⟨c :: us, mapM_run (by simp only [resOf, Sem.run_bind, e1, asAddr, Sem.run_pure, Result.andThen_ok, hl]) h1, RL.cons ?_ h2⟩
        rw [← g3]
        exact (Rep.ref p4.ldc).tmp
theorem own_val {C : Cx} {T : Sl} {S : Nat → Prop} {vals : List Value} {bss : List (List Nat)} {w : World} (hm : Mem C T S vals bss w) {u v : Value} {r k len : Nat} {e : TypeId} {es : List (List AV)} (hT : T.slots[r]? = some (k, .own e es)) (hv : vals[r]? = some v) (hl : len = es.length) (h : TmpOK C.P S w T vals u (.sl r k 0 len)) : u = v := by
  obtain ⟨v2, bs, hv2, hbb, hrep⟩ := hm.slot hT
  rw [hv] at hv2
  injection hv2 with hv2
  subst hv2
  obtain ⟨us0, sz0, bss0, -, hi0, hsz0, hown, -⟩ := hrep.own_inv
  obtain ⟨hol, A0, nn, cap, hve, g3, g4, g5, g6⟩ := h.2.2 e es v sz0 hT hv hi0
  rcases g6 with ⟨-, h8⟩ | ⟨A', h8, _⟩
  · rw [h8, hve, hl]
    rcases hown.2 with ⟨hnil, h0'⟩ | ⟨g, cap', cur, hcap, -⟩
    · rw [hve] at hnil; injection hnil with q1 q2 q3; rw [q2, h0']
    · rw [hve] at hcap; injection hcap with q1 q2 q3; rw [q2]
  · omega
/-- The blocks that the results take along. -/
theorem gives_out {C : Cx} {T : Sl} {S : Nat → Prop} {vals : List Value} {bss : List (List Nat)} {w : World} (hm : Mem C T S vals bss w) {n0 : Nat} : ∀ {used : List Nat} {zs ys : List AV}, Gives T n0 used zs ys → ∀ {us : List Value}, RL (TmpOK C.P S w T vals) us zs →
    ∃ rs : List (Option Nat), rs.length = ys.length ∧ us.length = ys.length ∧ (∀ (i r : Nat), rs[i]? = some (some r) → r ∈ used ∧ n0 ≤ r ∧ r < T.slots.length) ∧ (∀ (i j r : Nat), rs[i]? = some (some r) → rs[j]? = some (some r) → i = j) ∧
      (∀ (i : Nat) (u : Value) (y : AV), us[i]? = some u → ys[i]? = some y → (∃ (r : Nat) (bs : List Nat), rs[i]? = some (some r) ∧ bss[r]? = some bs ∧ Rep C.P S w bs u y) ∨ (rs[i]? = some none ∧ cloA n0 y = true ∧ TmpOK C.P S w T vals u y))
  | _, _, _, .nil, us, h => by
    have : us = [] := List.eq_nil_of_length_eq_zero h.1
    subst this
    exact ⟨[], rfl, rfl, by simp, by simp, by simp⟩
  | _, _, _, .keep hc hg, us, h => by
    obtain ⟨u, us', rfl, hu, h'⟩ := h.cons_inv
    obtain ⟨rs, h1, h2, h3, h4, h5⟩ := gives_out hm hg h'
    refine ⟨none :: rs, by simp [h1], by simp [h2], fun i r hi => ?_, fun i j r hi hj => ?_, fun i u y hu' hy => ?_⟩
    · cases i with
      | zero => simp at hi
      | succ i => exact h3 i r (by simpa using hi)
    · cases i <;> cases j <;> simp at hi hj
      · rename_i i j; rw [h4 i j r hi hj]
    · cases i with
      | zero => simp at hu' hy; subst hu'; subst hy; exact .inr ⟨rfl, hc, hu⟩
      | succ i => simpa using h5 i u y (by simpa using hu') (by simpa using hy)
  | _, _, _, .own (r := r) hT hl hr hu hg, us, h => by
    obtain ⟨u, us', rfl, hu', h'⟩ := h.cons_inv
    obtain ⟨rs, h1, h2, h3, h4, h5⟩ := gives_out hm hg h'
    obtain ⟨v, bs, hv, hb, hrep⟩ := hm.slot hT
    have := own_val hm hT hv hl hu'
    subst this
    refine ⟨some r :: rs, by simp [h1], by simp [h2], fun i q hi => ?_, fun i j q hi hj => ?_, fun i u y hu' hy => ?_⟩
    · cases i with
      | zero => simp at hi; subst hi; exact ⟨by simp, hr, (List.getElem?_eq_some_iff.1 hT).1⟩
      | succ i => obtain ⟨q1, q2⟩ := h3 i q (by simpa using hi); exact ⟨by simp [q1], q2⟩
    · cases i <;> cases j <;> simp at hi hj
      · rfl
      · subst hi; exact absurd (h3 _ _ hj).1 hu
      · subst hj; exact absurd (h3 _ _ hi).1 hu
      · rename_i i j; rw [h4 i j q hi hj]
    · cases i with
      | zero => simp at hu' hy; subst hu'; subst hy; exact .inl ⟨r, bs, rfl, hb, hrep⟩
      | succ i => simpa using h5 i u y (by simpa using hu') (by simpa using hy)
end Go.Proofs.Ytngfknoddphhaaa
