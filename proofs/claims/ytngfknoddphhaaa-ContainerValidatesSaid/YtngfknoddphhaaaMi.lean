import Derived.Test.YtngfknoddphhaaaLa
import Derived.Test.YtngfknoddphhaaaAbF
namespace Go.Proofs.Ytngfknoddphhaaa
open Go.RowKit
set_option linter.unusedSimpArgs false
set_option linter.unusedVariables false

/-! ### The keys of the maps of Check -/
theorem laidOutP : laidOutB Try.prog = true := by kernel_rfl
theorem wide33 : (match Try.prog.underlying 33 with | some (.array _ _) | some (.struct _) => true | _ => false) = true := by kernel_rfl
theorem kd33 : Go.Maps.Keyed Try.prog 33 := Go.Maps.Keyed.of_law (deep_law_laid laidOutP (m := 2) (by omega) (of_decide_eq_true (by kernel_rfl)) (by kernel_rfl) wide33)
theorem wide80 : (match Try.prog.underlying 80 with | some (.array _ _) | some (.struct _) => true | _ => false) = true := by kernel_rfl
theorem kd80 : Go.Maps.Keyed Try.prog 80 := Go.Maps.Keyed.of_law (deep_law_laid laidOutP (m := 3) (by omega) (of_decide_eq_true (by kernel_rfl)) (by kernel_rfl) wide80)
theorem kt33 : Try.prog.keyType 33 = true := by kernel_rfl
theorem kt80 : Try.prog.keyType 80 = true := by kernel_rfl
theorem tsz : ∃ n, Try.prog.types.size = n + 5 := ⟨Try.prog.types.size - 5, by have : 5 ≤ Try.prog.types.size := of_decide_eq_true (by kernel_rfl); omega⟩
theorem cl3 : Try.prog.cellsOf 3 = 1 := by kernel_rfl
theorem cl9 : Try.prog.cellsOf 9 = 1 := by kernel_rfl
theorem cl26 : Try.prog.cellsOf 26 = 4 := by kernel_rfl
theorem cl33 : Try.prog.cellsOf 33 = 3 := by kernel_rfl
theorem cl80 : Try.prog.cellsOf 80 = 5 := by kernel_rfl
theorem kl_int {d : Nat} {n : Int} (h : (Lit.int .i64 n).wf = true) : Try.prog.keyLits (d + 1) 3 [.int .i64 n] = some [.int .i64 n] := by
  unfold Program.keyLits
  rw [Try.underlying3]
  simp [h]
theorem kl_str {d : Nat} {s : ByteArray} (h : s.size ≤ maxLen) : Try.prog.keyLits (d + 1) 9 [.string s] = some [.string s.data.toList] := by
  unfold Program.keyLits
  rw [Try.underlying9]
  simp [h]
theorem kl_33 {d : Nat} {a b c : Int} (h1 : (Lit.int .i64 a).wf = true) (h2 : (Lit.int .i64 b).wf = true) (h3 : (Lit.int .i64 c).wf = true) : Try.prog.keyLits (d + 2) 33 [.int .i64 a, .int .i64 b, .int .i64 c] = some [.int .i64 a, .int .i64 b, .int .i64 c] := by
  show Try.prog.keyLits ((d + 1) + 1) 33 _ = _
  unfold Program.keyLits
  rw [Try.underlying33]
  simp [cl33, cl3, kl_int h1, kl_int h2, kl_int h3]
theorem kl_26 {d : Nat} {s t : ByteArray} {b c : Int} (h1 : s.size ≤ maxLen) (h2 : (Lit.int .i64 b).wf = true) (h3 : t.size ≤ maxLen) (h4 : (Lit.int .i64 c).wf = true) : Try.prog.keyLits (d + 2) 26 [.string s, .int .i64 b, .string t, .int .i64 c] = some [.string s.data.toList, .int .i64 b, .string t.data.toList, .int .i64 c] := by
  show Try.prog.keyLits ((d + 1) + 1) 26 _ = _
  unfold Program.keyLits
  rw [Try.underlying26]
  simp [cl26, cl3, cl9, kl_str h1, kl_int h2, kl_str h3, kl_int h4]
theorem key33 {a b c : Int} (h1 : (Lit.int .i64 a).wf = true) (h2 : (Lit.int .i64 b).wf = true) (h3 : (Lit.int .i64 c).wf = true) : ∃ kl, keyOf Try.prog 33 (.agg #[.int .i64 a, .int .i64 b, .int .i64 c]) = some kl := by
  obtain ⟨n, hn⟩ := tsz
  unfold keyOf
  rw [Try.underlying33]
  simp [kt33, Value.formed, Try.underlying33, cl33, hn, Value.cells, kl_33 h1 h2 h3]
theorem key80 {s t : ByteArray} {b c d : Int} (h1 : s.size ≤ maxLen) (h2 : (Lit.int .i64 b).wf = true) (h3 : t.size ≤ maxLen) (h4 : (Lit.int .i64 c).wf = true) (h5 : (Lit.int .i64 d).wf = true) : ∃ kl, keyOf Try.prog 80 (.agg #[.string s, .int .i64 b, .string t, .int .i64 c, .int .i64 d]) = some kl := by
  obtain ⟨n, hn⟩ := tsz
  have e : Try.prog.keyLits (n + 6) 80 [.string s, .int .i64 b, .string t, .int .i64 c, .int .i64 d] = some [.string s.data.toList, .int .i64 b, .string t.data.toList, .int .i64 c, .int .i64 d] := by
    show Try.prog.keyLits ((n + 5) + 1) 80 _ = _
    unfold Program.keyLits
    rw [Try.underlying80]
    simp [cl80, cl26, cl3, kl_26 h1 h2 h3 h4, kl_int h5]
  unfold keyOf
  rw [Try.underlying80]
  simp [kt80, Value.formed, Try.underlying80, cl80, hn, Value.cells, e]
theorem wf64 {n : Int} (h : -9223372036854775808 ≤ n ∧ n ≤ 9223372036854775807) : (Lit.int .i64 n).wf = true := by
  have e1 : IntKind.i64.min = -9223372036854775808 := by decide
  have e2 : IntKind.i64.max = 9223372036854775807 := by decide
  unfold Lit.wf
  simp [e1, e2]
  omega
theorem zf4 : ∀ w, (zeroValue 4).run Try.prog w = .ok (.bool false) w := fun w => by kernel_rfl
end Go.Proofs.Ytngfknoddphhaaa
