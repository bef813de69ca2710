import Derived.Laws.StructEq
import Derived.Test.YtbbedhidiffdgaaBf
import Derived.Test.YtbbedhidiffdgaaAbF
namespace Go.Proofs.Ytbbedhidiffdgaa
open Go.RowKit
set_option linter.unusedSimpArgs false
set_option linter.unusedVariables false
theorem st25 : Try.prog.stoodInHeld 25 = false := by kernel_rfl
theorem fo25 : Try.prog.underlying 25 = some (.struct (Try.prog.fieldsOf 25)) := by
  unfold Program.fieldsOf; rw [Try.underlying25]
theorem ty25 : Try.prog.eqGuardType Try.prog.depth 25 = false := by kernel_rfl
theorem run_eq25 (p q : Plate) (w : World) : (binOp .eql 25 (.agg #[.int .i64 p.lead, .int .i64 p.airline, .int .i64 p.serial]) (.agg #[.int .i64 q.lead, .int .i64 q.airline, .int .i64 q.serial])).run Try.prog w = .ok (.bool (decide (p = q))) w := by
  obtain ⟨a, b, c⟩ := p
  obtain ⟨a', b', c'⟩ := q
  unfold binOp
  simp only [Op.equal]
  rw [Sem.run_bind, show Op.maxDepth = 9998 + 1 + 1 from rfl, run_equalIn_struct w _ 25 _ _ fo25 st25]
  unfold Program.fieldsOf; rw [Try.underlying25]
  simp only [Op.eqFields]
  go_simp
  by_cases h1 : a = a' <;> by_cases h2 : b = b' <;> by_cases h3 : c = c' <;> simp [h1, h2, h3]
theorem run_ty25 (p q : Operand) (x y : Array Value) (w : World) : (eqGuard .eql 25 p q (.agg x) (.agg y)).run Try.prog w = .ok () w := by
  unfold eqGuard
  simp [ty25, run_program]
section
variable {S0 : Nat → Prop} {own0 : List Nat} {v0 : List Value} {w0 : World} {o : Oper} {ev : Operand → AV} {T : Sl} {yt : TypeId} {y z : Operand} {p q : Plate}
theorem op_eq25 (ho : o.op = .binOp .eql 25 y z yt) (hy : ev y = .agg p.av) (hz : ev z = .agg q.av) : OpP ⟨Try.prog, S0, own0, v0, w0⟩ o ev T (.v (.bool (decide (p = q)))) :=
  op_bin_agg (xs := [.int .i64 p.lead, .int .i64 p.airline, .int .i64 p.serial]) (ys := [.int .i64 q.lead, .int .i64 q.airline, .int .i64 q.serial]) ho hy hz (fun w => run_ty25 _ _ _ _ w) (fun w => run_eq25 p q w) rfl
end

theorem st45 : Try.prog.stoodInHeld 45 = false := by kernel_rfl
theorem fo45 : Try.prog.underlying 45 = some (.struct (Try.prog.fieldsOf 45)) := by
  unfold Program.fieldsOf; rw [Try.underlying45]
theorem ty45 : Try.prog.eqGuardType Try.prog.depth 45 = false := by kernel_rfl
def flEq (f g : Flight) : Bool := (f.carrier.toList == g.carrier.toList) && ((f.number == g.number) && ((f.suffix.toList == g.suffix.toList) && (f.day == g.day)))
theorem run_neq45 (p q : Flight) (w : World) : (binOp .neq 45 (.agg #[.string p.carrier, .int .i64 p.number, .string p.suffix, .int .i64 p.day]) (.agg #[.string q.carrier, .int .i64 q.number, .string q.suffix, .int .i64 q.day])).run Try.prog w = .ok (.bool (!flEq p q)) w := by
  obtain ⟨a, b, c, d⟩ := p
  obtain ⟨a', b', c', d'⟩ := q
  unfold binOp
  simp only [Op.equal]
  rw [Sem.run_bind, show Op.maxDepth = 9998 + 1 + 1 from rfl, run_equalIn_struct w _ 45 _ _ fo45 st45]
  unfold Program.fieldsOf; rw [Try.underlying45]
  simp only [Op.eqFields]
  go_simp
  unfold flEq
  by_cases h1 : a.toList = a'.toList <;> by_cases h2 : b = b' <;> by_cases h3 : c.toList = c'.toList <;> by_cases h4 : d = d' <;> simp [h1, h2, h3, h4]
theorem run_tyn45 (p q : Operand) (x y : Array Value) (w : World) : (eqGuard .neq 45 p q (.agg x) (.agg y)).run Try.prog w = .ok () w := by
  unfold eqGuard
  simp [ty45, run_program]
section
variable {S0 : Nat → Prop} {own0 : List Nat} {v0 : List Value} {w0 : World} {o : Oper} {ev : Operand → AV} {T : Sl} {yt : TypeId} {y z : Operand}
theorem op_neq45 {p q : Flight} (ho : o.op = .binOp .neq 45 y z yt) (hy : ev y = .agg p.av) (hz : ev z = .agg q.av) : OpP ⟨Try.prog, S0, own0, v0, w0⟩ o ev T (.v (.bool (!flEq p q))) :=
  op_bin_agg (xs := [.string p.carrier, .int .i64 p.number, .string p.suffix, .int .i64 p.day]) (ys := [.string q.carrier, .int .i64 q.number, .string q.suffix, .int .i64 q.day]) ho hy hz (fun w => run_tyn45 _ _ _ _ w) (fun w => run_neq45 p q w) rfl
end

theorem bytes_ext {a b : ByteArray} (h : a.data.toList = b.data.toList) : a = b := by
  cases a; cases b
  simp at h
  rw [h]

theorem bl_loop (a : ByteArray) : ∀ (n i : Nat) (r : List UInt8), a.size - i = n → ByteArray.toList.loop a i r = r.reverse ++ a.data.toList.drop i
  | 0, i, r, h => by
    have hs : a.data.toList.length = a.size := by rw [Array.length_toList]; rfl
    unfold ByteArray.toList.loop
    rw [if_neg (by omega), List.drop_eq_nil_of_le (by omega), List.append_nil]
  | n + 1, i, r, h => by
    have hs : a.data.toList.length = a.size := by rw [Array.length_toList]; rfl
    have hi : i < a.data.toList.length := by omega
    unfold ByteArray.toList.loop
    rw [if_pos (by omega), bl_loop a n (i + 1) _ (by omega), List.drop_eq_getElem_cons hi]
    have : a.get! i = a.data.toList[i] := by
      show a.data[i]! = _
      rw [getElem!_pos a.data i (by simpa using hi)]
      simp
    rw [this, List.reverse_cons, List.append_assoc]
    rfl
theorem bl_inj {a b : ByteArray} (h : a.toList = b.toList) : a = b := by
  unfold ByteArray.toList at h
  rw [bl_loop a _ 0 [] rfl, bl_loop b _ 0 [] rfl] at h
  exact bytes_ext (by simpa using h)
theorem flEq_iff {f g : Flight} : flEq f g = true ↔ f = g := by
  obtain ⟨a, b, c, d⟩ := f
  obtain ⟨a', b', c', d'⟩ := g
  unfold flEq
  simp only [Bool.and_eq_true, beq_iff_eq, Flight.mk.injEq]
  constructor
  · rintro ⟨h1, h2, h3, h4⟩; exact ⟨bl_inj h1, h2, bl_inj h3, h4⟩
  · rintro ⟨h1, h2, h3, h4⟩; exact ⟨by rw [h1], h2, by rw [h3], h4⟩

theorem run_eq45 (p q : Flight) (w : World) : (binOp .eql 45 (.agg #[.string p.carrier, .int .i64 p.number, .string p.suffix, .int .i64 p.day]) (.agg #[.string q.carrier, .int .i64 q.number, .string q.suffix, .int .i64 q.day])).run Try.prog w = .ok (.bool (flEq p q)) w := by
  obtain ⟨a, b, c, d⟩ := p
  obtain ⟨a', b', c', d'⟩ := q
  unfold binOp
  simp only [Op.equal]
  rw [Sem.run_bind, show Op.maxDepth = 9998 + 1 + 1 from rfl, run_equalIn_struct w _ 45 _ _ fo45 st45]
  unfold Program.fieldsOf; rw [Try.underlying45]
  simp only [Op.eqFields]
  go_simp
  unfold flEq
  by_cases h1 : a.toList = a'.toList <;> by_cases h2 : b = b' <;> by_cases h3 : c.toList = c'.toList <;> by_cases h4 : d = d' <;> simp [h1, h2, h3, h4]
theorem run_tye45 (p q : Operand) (x y : Array Value) (w : World) : (eqGuard .eql 45 p q (.agg x) (.agg y)).run Try.prog w = .ok () w := by
  unfold eqGuard
  simp [ty45, run_program]
section
variable {S0 : Nat → Prop} {own0 : List Nat} {v0 : List Value} {w0 : World} {o : Oper} {ev : Operand → AV} {T : Sl} {yt : TypeId} {y z : Operand}
theorem op_eq45 {p q : Flight} (ho : o.op = .binOp .eql 45 y z yt) (hy : ev y = .agg p.av) (hz : ev z = .agg q.av) : OpP ⟨Try.prog, S0, own0, v0, w0⟩ o ev T (.v (.bool (flEq p q))) :=
  op_bin_agg (xs := [.string p.carrier, .int .i64 p.number, .string p.suffix, .int .i64 p.day]) (ys := [.string q.carrier, .int .i64 q.number, .string q.suffix, .int .i64 q.day]) ho hy hz (fun w => run_tye45 _ _ _ _ w) (fun w => run_eq45 p q w) rfl
end

theorem laidOutP : laidOutB Try.prog = true := by kernel_rfl
theorem wide25 : (match Try.prog.underlying 25 with | some (.array _ _) | some (.struct _) => true | _ => false) = true := by kernel_rfl
theorem kd25 : Go.Maps.Keyed Try.prog 25 := Go.Maps.Keyed.of_law (deep_law_laid laidOutP (m := 2) (by omega) (of_decide_eq_true (by kernel_rfl)) (by kernel_rfl) wide25)
theorem kt25 : Try.prog.keyType 25 = true := by kernel_rfl
theorem tsz : ∃ n, Try.prog.types.size = n + 5 := ⟨Try.prog.types.size - 5, by have : 5 ≤ Try.prog.types.size := of_decide_eq_true (by kernel_rfl); omega⟩
theorem cl3 : Try.prog.cellsOf 3 = 1 := by kernel_rfl
theorem cl9 : Try.prog.cellsOf 9 = 1 := by kernel_rfl
theorem cl45 : Try.prog.cellsOf 45 = 4 := by kernel_rfl
theorem cl25 : Try.prog.cellsOf 25 = 3 := by kernel_rfl
theorem kl_int {d : Nat} {n : Int} (h : (Lit.int .i64 n).wf = true) : Try.prog.keyLits (d + 1) 3 [.int .i64 n] = some [.int .i64 n] := by
  unfold Program.keyLits
  rw [Try.underlying3]
  simp [h]
theorem kl_str {d : Nat} {s : ByteArray} (h : s.size ≤ maxLen) : Try.prog.keyLits (d + 1) 9 [.string s] = some [.string s.data.toList] := by
  unfold Program.keyLits
  rw [Try.underlying9]
  simp [h]
theorem kl_25 {d : Nat} {a b c : Int} (h1 : (Lit.int .i64 a).wf = true) (h2 : (Lit.int .i64 b).wf = true) (h3 : (Lit.int .i64 c).wf = true) : Try.prog.keyLits (d + 2) 25 [.int .i64 a, .int .i64 b, .int .i64 c] = some [.int .i64 a, .int .i64 b, .int .i64 c] := by
  show Try.prog.keyLits ((d + 1) + 1) 25 _ = _
  unfold Program.keyLits
  rw [Try.underlying25]
  simp [cl25, cl3, kl_int h1, kl_int h2, kl_int h3]
theorem kl_45 {d : Nat} {s t : ByteArray} {b c : Int} (h1 : s.size ≤ maxLen) (h2 : (Lit.int .i64 b).wf = true) (h3 : t.size ≤ maxLen) (h4 : (Lit.int .i64 c).wf = true) : Try.prog.keyLits (d + 2) 45 [.string s, .int .i64 b, .string t, .int .i64 c] = some [.string s.data.toList, .int .i64 b, .string t.data.toList, .int .i64 c] := by
  show Try.prog.keyLits ((d + 1) + 1) 45 _ = _
  unfold Program.keyLits
  rw [Try.underlying45]
  simp [cl45, cl3, cl9, kl_str h1, kl_int h2, kl_str h3, kl_int h4]
theorem key25 {a b c : Int} (h1 : (Lit.int .i64 a).wf = true) (h2 : (Lit.int .i64 b).wf = true) (h3 : (Lit.int .i64 c).wf = true) : ∃ kl, keyOf Try.prog 25 (.agg #[.int .i64 a, .int .i64 b, .int .i64 c]) = some kl := by
  obtain ⟨n, hn⟩ := tsz
  unfold keyOf
  rw [Try.underlying25]
  simp [kt25, Value.formed, Try.underlying25, cl25, hn, Value.cells, kl_25 h1 h2 h3]

theorem wf64 {n : Int} (h : -9223372036854775808 ≤ n ∧ n ≤ 9223372036854775807) : (Lit.int .i64 n).wf = true := by
  have e1 : IntKind.i64.min = -9223372036854775808 := by decide
  have e2 : IntKind.i64.max = 9223372036854775807 := by decide
  unfold Lit.wf
  simp [e1, e2]
  omega
theorem zf4 : ∀ w, (zeroValue 4).run Try.prog w = .ok (.bool false) w := fun w => by kernel_rfl

end Go.Proofs.Ytbbedhidiffdgaa
