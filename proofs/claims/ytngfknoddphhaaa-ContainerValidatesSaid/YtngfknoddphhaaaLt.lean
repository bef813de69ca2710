import Derived.Test.YtngfknoddphhaaaLn
namespace Go.Proofs.Ytngfknoddphhaaa
open Go.RowKit
set_option linter.unusedSimpArgs false
set_option linter.unusedVariables false

theorem st26 : Try.prog.stoodInHeld 26 = false := by kernel_rfl
theorem fo26 : Try.prog.underlying 26 = some (.struct (Try.prog.fieldsOf 26)) := by
  unfold Program.fieldsOf; rw [Try.underlying26]
theorem ty26 : Try.prog.eqGuardType Try.prog.depth 26 = false := by kernel_rfl
def flEq (f g : Flight) : Bool := (f.carrier.toList == g.carrier.toList) && ((f.number == g.number) && ((f.suffix.toList == g.suffix.toList) && (f.day == g.day)))
theorem run_neq26 (p q : Flight) (w : World) : (binOp .neq 26 (.agg #[.string p.carrier, .int .i64 p.number, .string p.suffix, .int .i64 p.day]) (.agg #[.string q.carrier, .int .i64 q.number, .string q.suffix, .int .i64 q.day])).run Try.prog w = .ok (.bool (!flEq p q)) w := by
  obtain ⟨a, b, c, d⟩ := p
  obtain ⟨a', b', c', d'⟩ := q
  unfold binOp
  simp only [Op.equal]
  rw [Sem.run_bind, show Op.maxDepth = 9998 + 1 + 1 from rfl, run_equalIn_struct w _ 26 _ _ fo26 st26]
  unfold Program.fieldsOf; rw [Try.underlying26]
  simp only [Op.eqFields]
  go_simp
  unfold flEq
  by_cases h1 : a.toList = a'.toList <;> by_cases h2 : b = b' <;> by_cases h3 : c.toList = c'.toList <;> by_cases h4 : d = d' <;> simp [h1, h2, h3, h4]
theorem run_tyn26 (p q : Operand) (x y : Array Value) (w : World) : (eqGuard .neq 26 p q (.agg x) (.agg y)).run Try.prog w = .ok () w := by
  unfold eqGuard
  simp [ty26, run_program]
theorem st36 : Try.prog.stoodInHeld 36 = false := by kernel_rfl
theorem fo36 : Try.prog.underlying 36 = some (.struct (Try.prog.fieldsOf 36)) := by
  unfold Program.fieldsOf; rw [Try.underlying36]
theorem ty36 : Try.prog.eqGuardType Try.prog.depth 36 = false := by kernel_rfl
def piEq (p q : Piece) : Bool := decide (p.plate = q.plate) && ((p.weight == q.weight) && (p.category == q.category))
theorem run_neq36 (p q : Piece) (w : World) : (binOp .neq 36 (.agg #[.int .i64 p.plate.lead, .int .i64 p.plate.airline, .int .i64 p.plate.serial, .int .i64 p.weight, .int .i64 p.category]) (.agg #[.int .i64 q.plate.lead, .int .i64 q.plate.airline, .int .i64 q.plate.serial, .int .i64 q.weight, .int .i64 q.category])).run Try.prog w = .ok (.bool (!piEq p q)) w := by
  obtain ⟨⟨x, y, z⟩, b, c⟩ := p
  obtain ⟨⟨x', y', z'⟩, b', c'⟩ := q
  unfold binOp
  simp only [Op.equal]
  rw [Sem.run_bind, show Op.maxDepth = 9997 + 1 + 1 + 1 from rfl, run_equalIn_struct w _ 36 _ _ fo36 st36]
  unfold Program.fieldsOf; rw [Try.underlying36]
  simp only [Op.eqFields]
  go_simp
  unfold piEq
  by_cases h1 : x = x' <;> by_cases h4 : y = y' <;> by_cases h5 : z = z' <;> by_cases h2 : b = b' <;> by_cases h3 : c = c' <;> simp [h1, h2, h3, h4, h5]
theorem run_tyn36 (p q : Operand) (x y : Array Value) (w : World) : (eqGuard .neq 36 p q (.agg x) (.agg y)).run Try.prog w = .ok () w := by
  unfold eqGuard
  simp [ty36, run_program]
section
variable {S0 : Nat → Prop} {own0 : List Nat} {v0 : List Value} {w0 : World} {o : Oper} {ev : Operand → AV} {T : Sl} {yt : TypeId} {y z : Operand}
theorem op_neq26 {p q : Flight} (ho : o.op = .binOp .neq 26 y z yt) (hy : ev y = .agg p.av) (hz : ev z = .agg q.av) : OpP ⟨Try.prog, S0, own0, v0, w0⟩ o ev T (.v (.bool (!flEq p q))) :=
  op_bin_agg (xs := [.string p.carrier, .int .i64 p.number, .string p.suffix, .int .i64 p.day]) (ys := [.string q.carrier, .int .i64 q.number, .string q.suffix, .int .i64 q.day]) ho hy hz (fun w => run_tyn26 _ _ _ _ w) (fun w => run_neq26 p q w) rfl
theorem op_neq36 {p q : Piece} (ho : o.op = .binOp .neq 36 y z yt) (hy : ev y = .agg p.av) (hz : ev z = .agg q.av) : OpP ⟨Try.prog, S0, own0, v0, w0⟩ o ev T (.v (.bool (!piEq p q))) :=
  op_bin_agg (xs := [.int .i64 p.plate.lead, .int .i64 p.plate.airline, .int .i64 p.plate.serial, .int .i64 p.weight, .int .i64 p.category]) (ys := [.int .i64 q.plate.lead, .int .i64 q.plate.airline, .int .i64 q.plate.serial, .int .i64 q.weight, .int .i64 q.category]) ho hy hz (fun w => run_tyn36 _ _ _ _ w) (fun w => run_neq36 p q w) rfl
end
end Go.Proofs.Ytngfknoddphhaaa
