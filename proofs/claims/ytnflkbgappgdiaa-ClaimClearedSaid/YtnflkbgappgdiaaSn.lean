import Derived.ChangeKeysEq
import Derived.Test.YtnflkbgappgdiaaSm
import Derived.Test.YtnflkbgappgdiaaSi
import Derived.Test.YtnflkbgappgdiaaAbM
namespace Go.Proofs.Ytnflkbgappgdiaa
open Go.RowKit
set_option linter.unusedSimpArgs false
set_option linter.unusedVariables false
theorem under61 : Try.prog.underlying 61 = some (.array 8 3) := Try.underlying61
theorem cells3 : Try.prog.cellsOf 3 = 1 := by kernel_rfl
theorem ty61 : Try.prog.eqGuardType Try.prog.depth 61 = false := by kernel_rfl
abbrev a8 (f : Nat → Int) : List Value := (List.range 8).map fun k => .int .i64 (f k)
/-- The cells of an array of eight. -/
abbrev A8 (f : Nat → Int) : List AV := (a8 f).map .v
theorem info3 : ∃ i, Try.prog.info? 3 = some i := by
  have h : (Try.prog.info? 3).isSome = true := by kernel_rfl
  exact Option.isSome_iff_exists.1 h
theorem run_eql61 (f : Nat → Int) (w : World) : (binOp .eql 61 (.agg (a8 f).toArray) (.agg (a8 f).toArray)).run Try.prog w = .ok (.bool true) w := by
  obtain ⟨i, hi⟩ := info3
  have he : ∀ a b : Int, Sem.run Try.prog (Op.equalIn 9999 3 (.int .i64 a) (.int .i64 b)) w = .ok (a == b) w := fun a b => run_equalIn_int w 9998 3 .i64 .i64 a b Try.underlying3
  unfold binOp
  simp only [Op.equal]
  rw [Sem.run_bind, show Op.maxDepth = 9999 + 1 from rfl, run_equalIn_array w 9999 _ _ under61 hi, cells3]
  have hr : List.range 8 = [0, 1, 2, 3, 4, 5, 6, 7] := by decide
  unfold a8
  rw [hr]
  simp [Op.eqItems, part, isAgg, run_underlying Try.underlying3, he]
theorem run_tyeql61 (p q : Operand) (x y : Array Value) (w : World) : (eqGuard .eql 61 p q (.agg x) (.agg y)).run Try.prog w = .ok () w := by
  unfold eqGuard
  simp [ty61, run_program]
section
variable {S0 : Nat → Prop} {own0 : List Nat} {v0 : List Value} {w0 : World} {o : Oper} {ev : Operand → AV} {T : Sl} {yt : TypeId} {y z : Operand} {f : Nat → Int}
theorem op_eql61 (ho : o.op = .binOp .eql 61 y z yt) (hy : ev y = .agg (A8 f)) (hz : ev z = .agg (A8 f)) : OpP ⟨Try.prog, S0, own0, v0, w0⟩ o ev T (.v (.bool true)) :=
  op_bin_agg (xs := a8 f) (ys := a8 f) ho hy hz (fun w => run_tyeql61 _ _ _ _ w) (fun w => run_eql61 f w) rfl
end
def updF (f : Nat → Int) (w : Nat) (x : Int) (k : Nat) : Int := if k = w then x else f k
theorem A8_set (f : Nat → Int) {w : Nat} (hw : w < 8) (x : Int) : (A8 f).set w (.v (.int .i64 x)) = A8 (updF f w x) := by
  match w, hw with
  | 0, _ => rfl
  | 1, _ => rfl
  | 2, _ => rfl
  | 3, _ => rfl
  | 4, _ => rfl
  | 5, _ => rfl
  | 6, _ => rfl
  | 7, _ => rfl
theorem A8_get (f : Nat → Int) {w : Nat} (hw : w < 8) : (A8 f)[w]? = some (.v (.int .i64 (f w))) := by
  match w, hw with
  | 0, _ => rfl
  | 1, _ => rfl
  | 2, _ => rfl
  | 3, _ => rfl
  | 4, _ => rfl
  | 5, _ => rfl
  | 6, _ => rfl
  | 7, _ => rfl
theorem A8_congr {f g : Nat → Int} (h : ∀ k, k < 8 → f k = g k) : A8 f = A8 g := by
  unfold A8 a8
  congr 1
  exact List.map_congr_left fun k hk => by rw [h k (List.mem_range.1 hk)]
/-- Who pays and who gets stands in the list. -/
theorem settle_src {xs : List Pr} (hb : balE xs = 0) (hs : sumA xs = 0) : ∀ t ∈ setF xs.length xs [], (∃ i, i < xs.length ∧ t.fr = (xs.getD i default).name) ∧ ∃ k, k < xs.length ∧ t.to = (xs.getD k default).name := by
  obtain ⟨h8, hbe, -⟩ := bal_ok hb
  have hd := distinct_of hbe
  obtain ⟨l, hR, hstop⟩ := setF_inv hd xs.length xs [] ⟨rfl, fun _ _ => rfl, bal_inL hbe, hs, fun i hi => by simp, fun i hi => ⟨id, id⟩, by simp, by simp, by simp, fun _ h => absurd rfl h⟩ (nz_le xs)
  intro t ht
  obtain ⟨⟨a, ha, e1, -⟩, ⟨b, hb2, e2, -⟩⟩ := hR.src t ht
  exact ⟨⟨a, ha, e1⟩, ⟨b, hb2, e2⟩⟩
/-- What the transfers bring to the eight carriers, for a list of the first five. -/
theorem settle_F5 {f : Nat → Int} (hb : B5 (-5000) 5000 f) (hs : S5 f = 0) : ∀ k, k < 8 → ((setF 5 (F5 f) []).map (netT (carr.getD k default))).sum = -(if k < 5 then f k else 0) := by
  have hB := balF hb (by decide) (by decide) hs
  have hS : sumA (F5 f) = 0 := by
    show f 0 + (f 1 + (f 2 + (f 3 + (f 4 + 0)))) = 0
    unfold S5 at hs
    omega
  have hL := settle_law hB hS
  have hX := settle_src hB hS
  rw [show (F5 f).length = 5 from rfl] at hL hX
  have hnm : ∀ i, i < 5 → ((F5 f).getD i default).name = carr.getD i default ∧ ((F5 f).getD i default).amt = f i := fun i hi => by
    match i, hi with
    | 0, _ => exact ⟨rfl, rfl⟩
    | 1, _ => exact ⟨rfl, rfl⟩
    | 2, _ => exact ⟨rfl, rfl⟩
    | 3, _ => exact ⟨rfl, rfl⟩
    | 4, _ => exact ⟨rfl, rfl⟩
  intro k hk
  by_cases h5 : k < 5
  · have := hL.bal k h5
    rw [(hnm k h5).1, (hnm k h5).2] at this
    rw [if_pos h5]
    omega
  · rw [if_neg h5]
    have hz : ∀ t ∈ setF 5 (F5 f) [], netT (carr.getD k default) t = 0 := fun t ht => by
      obtain ⟨⟨a, ha, e1⟩, ⟨b, hb2, e2⟩⟩ := hX t ht
      rw [(hnm a ha).1] at e1
      rw [(hnm b hb2).1] at e2
      unfold netT
      rw [if_neg (by rw [e1]; exact carr_ne a (by omega) k hk (by omega)), if_neg (by rw [e2]; exact carr_ne b (by omega) k hk (by omega))]
      rfl
    rw [List.map_congr_left hz]
    have h0 : ∀ ts : List Tr, (ts.map fun _ => (0 : Int)).sum = 0 := fun ts => by
      induction ts with
      | nil => rfl
      | cons a l ih => rw [List.map_cons, List.sum_cons, ih]; rfl
    rw [h0]; rfl
end Go.Proofs.Ytnflkbgappgdiaa
