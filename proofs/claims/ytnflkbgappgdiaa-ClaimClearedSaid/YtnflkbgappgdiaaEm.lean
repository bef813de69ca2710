import Derived.Test.YtnflkbgappgdiaaEl
namespace Go.Proofs.Ytnflkbgappgdiaa
open Go.RowKit
set_option linter.unusedSimpArgs false
set_option linter.unusedVariables false

section
open Go.Sort Go.Lib
noncomputable def siT : TypeInfo := (Try.prog.info? 23).get (by kernel_rfl)
noncomputable def siE : TypeInfo := (Try.prog.info? 3).get (by kernel_rfl)
theorem siK (n : Nat) (h2 : 2 ≤ n) : Lib.swapperK n siE 2 = 5 := by
  have a : siE.hasPointers = false := by kernel_rfl
  have b : siE.bytes = 8 := by kernel_rfl
  have c : (n == 0) = false := by simp; omega
  have d : (n == 1) = false := by simp; omega
  simp [Lib.swapperK, a, b, c, d]
theorem en35c : ∀ args w, (callFunc 35 args).run Try.prog w = .ok (.enter 35 args) w := enters_of Try.func35 (by kernel_rfl) rfl
theorem sort_small {k : Nat} (lt : Fin (k + 1) → Fin (k + 1) → Bool) (ds : List (Fin (k + 1))) (h20 : ds.length ≤ 20) (w : World) (blk c : Nat) (lb : Array Value) (h2 : 2 ≤ ds.toArray.size) (hL : LessReads Try.prog 35 lb (encF (m := k + 1)) lt blk 0 ds.toArray.size w) (hH : Holds (encF (m := k + 1)) w blk 0 ds.toArray) (hb : blk < w.heap.size) :
    Calls Try.prog 34 #[.iface 23 (.slice (some ⟨blk, 0, none⟩) ds.toArray.size c), .func (.func 35) #[] lb] w fun e w' => e = .returned (.tuple #[]) ∧ ∃ n os, w' = grow (putRow encF (Sort.ahead w n) blk 0 (Sort.insertionSort lt ds.toArray 0 ds.toArray.size)) os :=
  Any.sort_SliceStable_small laysGt8 23 3 siT siE (by kernel_rfl) (by kernel_rfl) (by kernel_rfl) (by kernel_rfl) 2 (fun _ => by kernel_rfl) (by kernel_rfl) (fun _ => by kernel_rfl) encF (fun _ => rfl) lt 35 lb
    en35c blk 0 c ds.toArray h2 (by simpa using h20) 54 (by rw [siK _ h2]; kernel_rfl) true
    (fun args W => run_callFunc_extern Try.func54 (by kernel_rfl) (by kernel_rfl) (by kernel_rfl) (e := Extern.ReflectliteSwapper.swap true) (by kernel_rfl) args W) w hL hH hb
theorem sort_tiny (w : World) (p : Option Addr) (n c : Nat) (lb : Array Value) (hn : n ≤ 1) :
    Calls Try.prog 34 #[.iface 23 (.slice p n c), .func (.func 35) #[] lb] w fun e w' => e = .returned (.tuple #[]) ∧ ∃ os, w' = grow w os := by
  rcases (by omega : n = 0 ∨ n = 1) with rfl | rfl
  · exact Any.sort_SliceStable_tiny laysGt8 23 3 siT siE (by kernel_rfl) (by kernel_rfl) (by kernel_rfl) (by kernel_rfl) 2 (fun _ => by kernel_rfl) p 0 c (by decide) 50 (by kernel_rfl) (.func 35) #[] lb w
  · exact Any.sort_SliceStable_tiny laysGt8 23 3 siT siE (by kernel_rfl) (by kernel_rfl) (by kernel_rfl) (by kernel_rfl) 2 (fun _ => by kernel_rfl) p 1 c (by decide) 51 (by kernel_rfl) (.func 35) #[] lb w
end
theorem op_sort14 {S0 : Nat → Prop} {own0 : List Nat} {v0 : List Value} {w0 : World} {o : Oper} {ev : Operand → AV} {T : Sl} {p1 p2 : Operand} {ts : Array TypeId} {r k0 k : Nat} {u : Value} {n : Int} {xs : List Pr} {ds : List (Fin (k + 1))}
    (ho : o.op = .call { callee := .value (.func 34), args := #[p1, p2], argTypes := ts }) (h1 : ev p1 = .v (.iface 23 u)) (h2 : ev p2 = .clo 35 [.rop [.v (.int .i64 n)], .rop [.ro (xs.map Pr.av)], .rop [.v u], .rop [.v (.int .i64 (sumA xs))]])
    (hT : T.slots[r]? = some (k0, .nm u 3 (ds.map (rowE encF)))) (hn : 0 ≤ n ∧ n ≤ 1073741824) (hp : partyE xs = 0) (hk : xs.length = k + 1) (hds : ds.length ≤ 8)
    {T' : Sl} (hT' : (⟨T.slots.set r (T.ep, .nm u 3 ((sortN (ltR n (sumA xs) xs) ds).map (rowE encF))), T.ep + 1⟩ : Sl) = T') : OpJ ⟨Try.prog, S0, own0, v0, w0⟩ o ev T .any T' :=
  op_sortS ho h1 h2 en34 hT sz3 (fun _ => rfl) (size_insSort _ _ _ _) (fun w blk c lb q1 q2 q3 q4 => sort_small _ ds (by omega) w blk c lb q1 q2 q3 q4) (fun w p m c lb hm => sort_tiny w p m c lb hm)
    (fun S w lb blk c q0 q1 q2 q3 q4 q5 => less_reads hn hp hk q1 (by omega) q2 q3 (by simp) q4 q5) hT'
end Go.Proofs.Ytnflkbgappgdiaa
