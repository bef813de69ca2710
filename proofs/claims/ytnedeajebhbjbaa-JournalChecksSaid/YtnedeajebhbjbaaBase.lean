import Derived.Test.YtnedeajebhbjbaaLaw
import Derived.Test.YtnedeajebhbjbaaAwk
import Derived.Deep.RegionHeld3
import Derived.Deep.DeepCutAuto
namespace Go.Proofs.Ytnedeajebhbjbaa
open Go.RowKit

/-- WHAT THE WALK IS TOLD OF A SLICE OF INTEGERS THAT CAME IN. -/
def IsRow (k : IntKind) (w : World) (a : Option Addr) (len cap : Nat) (zs : List Int) : Prop :=
  (a = none ∧ len = 0 ∧ cap = 0 ∧ zs = []) ∨
  ∃ x, a = some x ∧ len ≤ cap ∧ cap ≤ maxLen ∧ zs.length = cap ∧ (∀ i, i < zs.length → w.cell? (x.add i) = some (.int k (zs.getD i 0))) ∧ ∀ n ∈ zs, (Lit.int k n).wf = true

theorem IsRow.form {k : IntKind} {w : World} {a : Option Addr} {len cap : Nat} {zs : List Int} (h : IsRow k w a len cap zs) :
    ∃ l : List Int, len = l.length ∧ l.length ≤ cap ∧ cap ≤ maxLen ∧ Rd All w a (l.map (.int k)) ∧ ∀ n ∈ l, (Lit.int k n).wf = true := by
  rcases h with ⟨rfl, rfl, rfl, rfl⟩ | ⟨x, rfl, h1, h2, h3, h4, h5⟩
  · exact ⟨[], rfl, Nat.le_refl _, by unfold maxLen; omega, Rd.nil, by simp⟩
  · refine ⟨zs.take len, by rw [List.length_take]; omega, by rw [List.length_take]; omega, h2, ?_, fun n hn => h5 n (List.mem_of_mem_take hn)⟩
    refine Rd.of_add trivial fun j u hu => ?_
    rw [List.getElem?_map, List.getElem?_take] at hu
    split at hu
    · have hj : j < zs.length := by
        rcases Nat.lt_or_ge j zs.length with h | h
        · exact h
        · rw [List.getElem?_eq_none h] at hu; simp at hu
      rw [h4 j hj]
      rw [List.getElem?_eq_getElem hj] at hu
      simp at hu
      rw [← hu]
      simp [hj]
    · simp at hu
theorem IsRow.ints {w : World} {a : Option Addr} {len cap : Nat} {zs : List Int} (h : IsRow .i64 w a len cap zs) :
    ∃ l : List Int, len = l.length ∧ l.length ≤ cap ∧ cap ≤ maxLen ∧ Rd All w a (l.map (.int .i64)) ∧ ∀ n ∈ l, i64ok n := by
  obtain ⟨l, h1, h2, h3, h4, h5⟩ := h.form
  refine ⟨l, h1, h2, h3, h4, fun n hn => ?_⟩
  have := h5 n hn
  simp [Lit.wf] at this
  have e1 : IntKind.i64.min = -9223372036854775808 := rfl
  have e2 : IntKind.i64.max = 9223372036854775807 := rfl
  unfold i64ok
  omega
theorem IsRow.bytes {w : World} {a : Option Addr} {len cap : Nat} {zs : List Int} (h : IsRow .u8 w a len cap zs) :
    ∃ l : List UInt8, len = l.length ∧ l.length ≤ cap ∧ cap ≤ maxLen ∧ RdL RB 1 All w a l := by
  obtain ⟨l, h1, h2, h3, h4, h5⟩ := h.form
  refine ⟨l.map fun n => UInt8.ofNat n.toNat, by simpa using h1, by simpa using h2, h3, RdL.of_map ?_⟩
  have e : (l.map fun n => UInt8.ofNat n.toNat).map u8v = l.map (.int .u8) := by
    rw [List.map_map]
    apply List.map_congr_left
    intro n hn
    have := h5 n hn
    simp [Lit.wf] at this
    have e1 : IntKind.u8.min = 0 := rfl
    have e2 : IntKind.u8.max = 255 := rfl
    simp [u8v]
    omega
  rw [e]
  exact h4
theorem new_n (w : World) (A : Option Addr) (n c : Nat) (l : List Int) (hr : Rd All w A (l.map (.int .i64))) (hn : n = l.length) (hlc : l.length ≤ c) (hc : c ≤ maxLen) (hl : ∀ z ∈ l, i64ok z) :
    Calls Try.prog 10 #[.slice A n c] w (NewTo w) := by
  subst hn; exact new_any w A c l hr hlc hc hl
theorem repair25_n (A : Option Addr) (n c : Nat) (b : List UInt8) (w : World) (hr : RdL RB 1 All w A b) (hl : b.length ≤ 5000000) (hn : n = b.length) (hc : n ≤ c) (hm : c ≤ maxLen) :
    Calls Try.prog 25 #[.slice A n c] w (RetB w (repairL b)) := by
  subst hn; exact repair25_any A c b w hr hl hc hm
theorem wp_call {P : Program} {o : Oper} {a : Act} {w : World} {K : Act → World → Prop} {Q : Exit → Act → World → Prop}
    {f : FuncId} {os : List Operand} {ts : Array TypeId} (ho : o.op = .call { callee := .value (.func f), args := os.toArray, argTypes := ts }) {vs : List Value} (hv : os.map a.eval = vs) (hf : (callFunc f vs.toArray).run P w = .ok (.enter f vs.toArray) w) {R : Ending → World → Prop} (hc : Calls P f vs.toArray w R)
    (h : ∀ e w', R e w' → ∃ v, e = .returned v ∧ K (a.put o.dst v) w') : o.wp P a w K Q := by
  unfold Oper.wp execOp
  have he : a.eval (Operand.func f) = .func (.func f) #[] #[] := rfl
  simp only [ho, resolve, Sem.run_bind, Sem.run_pure, he, Deferred.ofValue, List.map_toArray, hv, Result.andThen_ok, invoke, Array.empty_append, Array.append_empty, hf]
  refine hc.mono fun e w' hr => ?_
  obtain ⟨v, rfl, hk⟩ := h e w' hr
  exact hk
theorem step_call {P : Program} {ops : Array Oper} {o : Oper} {a : Act} {w : World} {K : Act → World → Prop} {Q : Exit → Act → World → Prop} {E : Prop} (hgd : o.guard = none)
    {f : FuncId} {os : List Operand} {ts : Array TypeId} (ho : o.op = .call { callee := .value (.func f), args := os.toArray, argTypes := ts }) {vs : List Value} (hv : os.map a.eval = vs) (hf : (callFunc f vs.toArray).run P w = .ok (.enter f vs.toArray) w) {R : Ending → World → Prop} (hc : Calls P f vs.toArray w R)
    (h : ∀ e w', R e w' → ∃ v, e = .returned v ∧ K (a.put o.dst v) w') : if Region.wanted o (yielded ops a.tmps) = true then Oper.wp P o a w K Q else E := by
  have hw : Region.wanted o (yielded ops a.tmps) = true := by simp [Region.wanted, hgd]
  rw [if_pos hw]
  exact wp_call ho hv hf hc h
theorem enter13 (vs : Array Value) (w : World) : (callFunc 13 vs).run Try.prog w = .ok (.enter 13 vs) w := by kernel_rfl

/-- What a list of records is known by. -/
structure ListAt (w : World) (most big : Nat) (A : Option Addr) (c : Nat) (xs : List (List UInt8)) (wx : World) : Prop where
  rd : RdL RBs 1 All wx A xs
  cnt : xs.length ≤ most
  big : ∀ r ∈ xs, r.length ≤ big
  le : xs.length ≤ c
  mx : c ≤ maxLen
  kept : Kept All w wx
theorem Kept.outer {w w2 w3 : World} {s : Nat} (h : Kept All w w2) (hs : w.heap.size ≤ s) (k : Kept (· ≠ s) w2 w3) : Kept All w w3 :=
  ((h.mono (S' := (· ≠ s)) fun _ _ _ => trivial).trans k).mono fun j hj _ => by omega
section
variable {P : Program} {ops : Array Oper} {o : Oper} {a : Act} {w : World} {K : Act → World → Prop} {Q : Exit → Act → World → Prop} {E : Prop}
theorem guard_call (f : FuncId) {os : List Operand} {ts : Array TypeId} (_ : o.op = .call { callee := .value (.func f), args := os.toArray, argTypes := ts })
    (h : if Region.wanted o (yielded ops a.tmps) = true then Oper.wp P o a w K Q else E) : if Region.wanted o (yielded ops a.tmps) = true then Oper.wp P o a w K Q else E := h
theorem guard_alloc {O : Obj} (h : if Region.wanted o (yielded ops a.tmps) = true then Oper.wp P o a (w.alloc O) K Q else E) : if Region.wanted o (yielded ops a.tmps) = true then Oper.wp P o a (w.alloc O) K Q else E := h
theorem guard_append {os : List Operand} {ts : Array TypeId} (_ : o.op = .call { callee := .builtin .append, args := os.toArray, argTypes := ts })
    (h : if Region.wanted o (yielded ops a.tmps) = true then Oper.wp P o a w K Q else E) : if Region.wanted o (yielded ops a.tmps) = true then Oper.wp P o a w K Q else E := h
end
theorem mk_list {w w4 : World} {most big base m c4 : Nat} {A4 : Option Addr} {ys : List (List UInt8)} (own4 : Own RBs 1 22 base All w4 (.slice A4 m c4) ys) (cnt : ys.length ≤ most) (hbig : ∀ r ∈ ys, r.length ≤ big) (kept : Kept All w w4) :
    m = ys.length ∧ ListAt w most big A4 c4 ys w4 := by
  obtain ⟨A', c', hv, h5, h6, h7⟩ := own4.rd (S := All) RBs_good (fun _ _ _ => trivial)
  injection hv with e1 e2 e3
  subst e1; subst e3
  exact ⟨e2, h7, cnt, hbig, h5, h6, kept⟩
theorem app_small {xs : List (List UInt8)} {t : List UInt8} {big : Nat} (h : ∀ r ∈ xs, r.length ≤ 8) (hb : 8 ≤ big) (ht : t.length ≤ big) : ∀ r ∈ xs ++ [t], r.length ≤ big := by
  intro r hr
  rcases List.mem_append.1 hr with h1 | h1
  · exact Nat.le_trans (h r h1) hb
  · have : r = t := by simpa using h1
    rw [this]; exact ht
end Go.Proofs.Ytnedeajebhbjbaa
