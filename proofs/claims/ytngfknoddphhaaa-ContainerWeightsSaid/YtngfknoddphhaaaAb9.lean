import Derived.Test.YtngfknoddphhaaaAb8
namespace Go.Proofs.Ytngfknoddphhaaa
open Go.RowKit
set_option linter.unusedSimpArgs false
set_option linter.unusedVariables false

section
variable {C : Cx} {o : Oper} {ev : Operand → AV} {T : Sl}
theorem rl_foldl {P : Program} {S : Nat → Prop} {w : World} (f : Nat → Nat) : ∀ (vs : List (Nat × Value)) (xs : List (Nat × List AV)) (us : List Value) (as : List AV), RL (fun u x => u.1 = x.1 ∧ RL (Rep P S w []) u.2.cells.toList x.2) vs xs → RL (Rep P S w []) us as →
    RL (Rep P S w []) (vs.foldl (fun cs p => splice cs (f p.1) p.2.cells.toList) us) (xs.foldl (fun cs p => splice cs (f p.1) p.2) as)
  | [], xs, us, as, h, h' => by
    have : xs = [] := List.eq_nil_of_length_eq_zero h.1.symm
    subst this; exact h'
  | v :: vs, [], us, as, h, h' => by have := h.1; simp at this
  | v :: vs, x :: xs, us, as, h, h' => by
    obtain ⟨v', vs', e, ⟨h1, h2⟩, h3⟩ := h.cons_inv
    injection e with e1 e2
    subst e1; subst e2
    rw [List.foldl_cons, List.foldl_cons, h1]
    exact rl_foldl f vs xs _ _ h3 (h'.spl h2 _)
def evP (a : Act) (ps : Array (Nat × Operand)) : Array (Nat × Value) := ps.map fun (i, x) => (i, a.eval x)
/-- The parts of a literal. -/
theorem parts_rl {a : Act} {w : World} {S : Nat → Prop} {vals : List Value} {ps : Array (Nat × Operand)} {rows : List (Nat × List AV)} (h : ∀ y ∈ (ps.toList.map (·.2)), TmpOK C.P S w T vals (a.eval y) (ev y)) (hp : ps.toList.map (fun p => (p.1, rowOf (ev p.2))) = rows.map (fun p => (p.1, some p.2))) :
    RL (fun (u : Nat × Value) (x : Nat × List AV) => u.1 = x.1 ∧ RL (Rep C.P S w []) u.2.cells.toList x.2) (evP a ps).toList rows := by
  refine ⟨by have := congrArg List.length hp; simpa [evP] using this, fun i u x hu hx => ?_⟩
  simp only [evP, Array.toList_map, List.getElem?_map] at hu
  cases hq : ps.toList[i]? with
  | none => rw [hq] at hu; cases hu
  | some q =>
    rw [hq] at hu
    simp at hu
    have h1 := congrArg (·[i]?) hp
    simp only [List.getElem?_map, hq, hx, Option.map_some, Option.some.injEq] at h1
    injection h1 with h1 h2
    rw [← hu]
    exact ⟨h1, (h q.2 (List.mem_map.2 ⟨q, List.mem_of_getElem? hq, rfl⟩)).row h2⟩
theorem op_buildSlice {t e : TypeId} {n sz b : Nat} {z : Value} {ps : Array (Nat × Operand)} (ho : o.op = .buildSlice t n ps) (rows : List (Nat × List AV)) (es : List (List AV)) (ht : C.P.underlying t = some (.slice e)) (hz : zeroIs C.P e z sz b)
    (hp : ps.toList.map (fun p => (p.1, rowOf (ev p.2))) = rows.map (fun p => (p.1, some p.2))) (hr : ∀ p ∈ rows, p.2.length = sz ∧ p.1 * sz + sz ≤ n * sz) (hes : rows.foldl (fun cs p => splice cs (p.1 * sz) p.2) (List.replicate (n * sz) .any) = es.flatten) (hs : ∀ x ∈ es, x.length = sz) (hn : es.length = n) (hm : n * sz ≤ 2 ^ 24) (hml : n ≤ maxLen) :
    OpJ C o ev T (.sl T.slots.length T.ep 0 n) (pushT T (.own e es)) := by
  subst hn
  refine op_new_sl hz.size hs hml fun a w S vals bss hm' h => ?_
  have hrl := parts_rl (C := C) (T := T) (fun y hy => h y (by simpa [ho, Op.operands] using hy)) hp
  have hzr := hz.run w
  have hsz := run_sizeOf (P := C.P) hz.size w
  have hsz2 : z.cells.size = sz := hz.2.1
  obtain ⟨init, hi, hil⟩ : ∃ init : Array Value, init = ((Array.range (es.length * sz)).map ((if es.length * sz = 0 then #[] else z.cells)[· % (if es.length * sz = 0 then #[] else z.cells).size]!)) ∧ RL (Rep C.P S w []) init.toList (List.replicate (es.length * sz) .any) := by
    refine ⟨_, rfl, by simp, fun i u x hu hx => ?_⟩
    rw [List.getElem?_replicate] at hx
    split at hx
    · injection hx with hx
      subst hx
      rename_i hlt
      have h0 : ¬ es.length * sz = 0 := by omega
      simp only [Array.toList_map, List.getElem?_map, if_neg h0] at hu
      have hlt2 : i < (Array.range (es.length * sz)).toList.length := by simpa using hlt
      rw [List.getElem?_eq_getElem hlt2] at hu
      simp at hu
      have hsp : 0 < sz := by rcases Nat.eq_zero_or_pos sz with h | h <;> simp_all
      have hmod : i % z.cells.size < z.cells.size := Nat.mod_lt _ (by omega)
      rw [getElem!_pos z.cells _ hmod] at hu
      rw [← hu]
      exact .any (Array.all_eq_true_iff_forall_mem.1 hz.2.2 _ (Array.getElem_mem hmod))
    · cases hx
  have hfill := fill_run (fun i => some (i * sz, sz)) (evP a ps).toList init fun p hp => by
    obtain ⟨i, hi', rfl⟩ := List.getElem_of_mem hp
    have hi2 : i < rows.length := by rw [← hrl.1]; exact hi'
    obtain ⟨e1, e2⟩ := hrl.2 i _ _ (List.getElem?_eq_getElem hi') (List.getElem?_eq_getElem hi2)
    obtain ⟨e3, e4⟩ := hr rows[i] (List.getElem_mem hi2)
    have e5 : (evP a ps).toList[i].2.cells.size = sz := by rw [← e3, ← e2.1]; simp
    refine ⟨_, by rw [e5], ?_⟩
    rw [e5, e1]
    have := hil.1
    simp at this
    omega
  refine ⟨(evP a ps).toList.foldl (fun cs p => splice cs (p.1 * sz) p.2.cells.toList) init.toList, ?_, ?_⟩
  · have hm2 : ¬ 16777216 < es.length * sz := by omega
    subst hi
    have he : execOp a.eval o = (do let v ← Instr.buildSlice t es.length (evP a ps); pure (Next.value v) : Sem Next) := by simp only [execOp, ho]; rfl
    rw [he]
    by_cases h0 : es.length * sz = 0
    · simp only [h0, if_true, Array.range_zero', Array.map_empty] at hfill
      simp [Instr.buildSlice, run_underlying ht, hsz, h0, Array.range_zero', hfill, newRow]
    · simp only [h0, if_false] at hfill
      simp [Instr.buildSlice, run_underlying ht, hsz, h0, hm2, hzr, hfill, newRow]
  · rw [← hes]
    exact rl_foldl (fun i => i * sz) _ _ _ _ hrl hil
/-- The cells of a datum, references and all. -/
def rowR : AV → Option (List AV)
  | .agg cs => some cs
  | .tup _ => none
  | .any => none
  | x => some [x]
theorem TmpOK.rowR {P : Program} {S : Nat → Prop} {w : World} {vals : List Value} {u : Value} {x : AV} {row : List AV} (h : TmpOK P S w T vals u x) (hr : rowR x = some row) : RL (RefOK P S w T vals) u.cells.toList row := by
  cases x with
  | agg cs =>
    obtain ⟨us, rfl, r⟩ := h.agg
    simp [Go.Proofs.Ytngfknoddphhaaa.rowR] at hr
    subst hr
    exact r
  | tup => cases hr
  | any => cases hr
  | _ =>
    simp only [Go.Proofs.Ytngfknoddphhaaa.rowR, Option.some.injEq] at hr
    simp only [TmpOK, AggOK] at h
    subst hr
    have h1 := RefOK.one h
    have h2 : u.cells.toList = [u] := by cases u <;> first | rfl | cases h1
    rw [h2]
    exact RL.cons h RL.nil
theorem rl_foldl_ref {P : Program} {S : Nat → Prop} {w : World} {vals : List Value} (f : Nat → Nat) : ∀ (vs : List (Nat × Value)) (xs : List (Nat × List AV)) (us : List Value) (as : List AV), RL (fun u x => u.1 = x.1 ∧ RL (RefOK P S w T vals) u.2.cells.toList x.2) vs xs → RL (RefOK P S w T vals) us as →
    RL (RefOK P S w T vals) (vs.foldl (fun cs p => splice cs (f p.1) p.2.cells.toList) us) (xs.foldl (fun cs p => splice cs (f p.1) p.2) as)
  | [], xs, us, as, h, h' => by
    have : xs = [] := List.eq_nil_of_length_eq_zero h.1.symm
    subst this; exact h'
  | v :: vs, [], us, as, h, h' => by have := h.1; simp at this
  | v :: vs, x :: xs, us, as, h, h' => by
    obtain ⟨v', vs', e, ⟨h1, h2⟩, h3⟩ := h.cons_inv
    injection e with e1 e2
    subst e1; subst e2
    rw [List.foldl_cons, List.foldl_cons, h1]
    exact rl_foldl_ref f vs xs _ _ h3 (h'.spl h2 _)
theorem op_build {t : TypeId} {n b : Nat} {z : Value} {ps : Array (Nat × Operand)} {fs : Array Field} {pl : List (Nat × Nat)} (ho : o.op = .build t ps) (rows : List (Nat × List AV)) (ht : C.P.underlying t = some (.struct fs)) (hpl : fs.toList.mapM (fun f => (C.P.info? f.type).map fun i => (f.offset, i.size)) = some pl) (hz : zeroIs C.P t z n b)
    (hp : ps.toList.map (fun p => (p.1, rowR (ev p.2))) = rows.map (fun p => (p.1, some p.2))) (hr : rows.all (fun p => match pl[p.1]? with | some (off, sz) => p.2.length == sz && off + sz ≤ n | none => false) = true) {xs : List AV} (hx : rows.foldl (fun cs p => splice cs ((pl[p.1]?).getD (0, 0)).1 p.2) (z.cells.toList.map .v) = xs) :
    OpP C o ev T (.agg xs) := by
  intro a w S vals bss hm h
  have hrl : RL (fun (u : Nat × Value) (x : Nat × List AV) => u.1 = x.1 ∧ RL (RefOK C.P S w T vals) u.2.cells.toList x.2) (evP a ps).toList rows := by
    refine ⟨by have := congrArg List.length hp; simpa [evP] using this, fun i u x hu hx => ?_⟩
    simp only [evP, Array.toList_map, List.getElem?_map] at hu
    cases hq : ps.toList[i]? with
    | none => rw [hq] at hu; cases hu
    | some q =>
      rw [hq] at hu
      simp at hu
      have h1 := congrArg (·[i]?) hp
      simp only [List.getElem?_map, hq, hx, Option.map_some, Option.some.injEq] at h1
      injection h1 with h1 h2
      rw [← hu]
      exact ⟨h1, (h q.2 (by simp [ho, Op.operands]; exact ⟨q.1, Array.mem_toList_iff.1 (List.mem_of_getElem? hq)⟩)).rowR h2⟩
  have hfill := fill_run (pl.toArray[·]?) (evP a ps).toList z.cells fun p hp => by
    obtain ⟨i, hi', rfl⟩ := List.getElem_of_mem hp
    have hi2 : i < rows.length := by rw [← hrl.1]; exact hi'
    obtain ⟨e1, e2⟩ := hrl.2 i _ _ (List.getElem?_eq_getElem hi') (List.getElem?_eq_getElem hi2)
    have h3 := List.all_eq_true.1 hr rows[i] (List.getElem_mem hi2)
    rw [e1]
    cases hq : pl[rows[i].1]? with
    | none => rw [hq] at h3; cases h3
    | some q =>
      rw [hq] at h3
      simp only [Bool.and_eq_true, beq_iff_eq, decide_eq_true_eq] at h3
      have e5 : (evP a ps).toList[i].2.cells.size = q.2 := by rw [← h3.1, ← e2.1]; simp
      refine ⟨q.1, by rw [e5]; simp [hq], ?_⟩
      rw [e5, hz.2.1]; exact h3.2
  have hf2 := rl_foldl_ref (T := T) (P := C.P) (S := S) (w := w) (vals := vals) (fun i => ((pl[i]?).getD (0, 0)).1) _ _ _ _ hrl (hz.rl.mono fun u x h => Rep.ref (T := T) (vals := vals) h)
  rw [hx] at hf2
  refine ⟨.agg ((evP a ps).toList.foldl (fun cs p => splice cs ((pl[p.1]?).getD (0, 0)).1 p.2.cells.toList) z.cells.toList).toArray, fun w => ?_, ⟨_, rfl, hf2⟩⟩
  have he : execOp a.eval o = (do let v ← Instr.build t (evP a ps); pure (Next.value v) : Sem Next) := by simp only [execOp, ho]; rfl
  have hpl' := run_places (P := C.P) w fs.toList pl hpl
  have hpl2 : (fs.mapM fun f => do let s ← sizeOf f.type; pure (f.offset, s) : Sem (Array (Nat × Nat))).run C.P w = .ok pl.toArray w := by
    rw [Array.mapM_eq_mapM_toList]
    simp [hpl']
  rw [he]
  have hfill' : Instr.fill (fun x => pl.toArray[x]?) z.cells (evP a ps).toList = _ := hfill
  simp only [Instr.build, Sem.run_bind, hz.run, run_underlying ht, Result.andThen_ok, hpl2, hfill', Sem.run_pure]
  simp
end
end Go.Proofs.Ytngfknoddphhaaa
