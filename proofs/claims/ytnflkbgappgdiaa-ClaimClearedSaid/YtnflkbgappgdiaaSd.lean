import Derived.Test.YtnflkbgappgdiaaEc
import Derived.Test.YtnflkbgappgdiaaAbJ
namespace Go.Proofs.Ytnflkbgappgdiaa
open Go.RowKit
set_option linter.unusedSimpArgs false
set_option linter.unusedVariables false

/-! ### Arguments -/
abbrev decISh : Sh := .int .i64
theorem decI {x : AV} (h : Mt x decISh) : ∃ n : Int, x = .v (.int .i64 n) := h.i64
abbrev decSSh : Sh := .str
theorem decS {x : AV} (h : Mt x decSSh) : ∃ n : ByteArray, x = .v (.string n) := h.s_
abbrev decIntSh : List Sh := [.int .i64]
theorem decInt {xs : List AV} (h : RL Mt xs decIntSh) : ∃ c : Int, xs = iv c := by
  obtain ⟨x0, xs, rfl, h0, h⟩ := h.cons_inv
  obtain rfl := h.nil_inv
  obtain ⟨v0, rfl⟩ := Mt.i64 h0
  exact ⟨v0, rfl⟩
abbrev decIntsSh : Sh := .sl decIntSh
theorem decInts {x : AV} (h : Mt x decIntsSh) : ∃ l : List Int, x = .ro (l.map iv) := by
  obtain ⟨es, rfl⟩ := h.sl_
  obtain ⟨l, rfl⟩ := rows_of fun e he => decInt (h.rows e he)
  exact ⟨l, rfl⟩
abbrev decPrSh : List Sh := [.str, .int .i64]
theorem decPr {xs : List AV} (h : RL Mt xs decPrSh) : ∃ c : Pr, xs = Pr.av c := by
  obtain ⟨x0, xs, rfl, h0, h⟩ := h.cons_inv
  obtain ⟨x1, xs, rfl, h1, h⟩ := h.cons_inv
  obtain rfl := h.nil_inv
  obtain ⟨v0, rfl⟩ := Mt.s_ h0
  obtain ⟨v1, rfl⟩ := Mt.i64 h1
  exact ⟨⟨v0, v1⟩, rfl⟩
abbrev decPrsSh : Sh := .sl decPrSh
theorem decPrs {x : AV} (h : Mt x decPrsSh) : ∃ l : List Pr, x = .ro (l.map Pr.av) := by
  obtain ⟨es, rfl⟩ := h.sl_
  obtain ⟨l, rfl⟩ := rows_of fun e he => decPr (h.rows e he)
  exact ⟨l, rfl⟩
end Go.Proofs.Ytnflkbgappgdiaa
