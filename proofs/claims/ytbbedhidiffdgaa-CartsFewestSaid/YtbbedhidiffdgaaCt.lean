import Derived.Test.YtbbedhidiffdgaaCa
import Derived.Test.YtbbedhidiffdgaaBd
import Derived.Test.YtbbedhidiffdgaaAbJ
namespace Go.Proofs.Ytbbedhidiffdgaa
open Go.RowKit
set_option linter.unusedSimpArgs false
set_option linter.unusedVariables false

/-! ### Arguments -/
abbrev decISh : Sh := .int .i64
theorem decI {x : AV} (h : Mt x decISh) : ∃ n : Int, x = .v (.int .i64 n) := h.i64
abbrev decIntSh : List Sh := [.int .i64]
theorem decInt {xs : List AV} (h : RL Mt xs decIntSh) : ∃ c : Int, xs = iv c := by
  obtain ⟨x0, xs, rfl, h0, h⟩ := h.cons_inv
  obtain rfl := h.nil_inv
  obtain ⟨v0, rfl⟩ := Mt.i64 h0
  exact ⟨v0, rfl⟩
abbrev decIntsSh : Sh := .sl decIntSh
theorem decInts {x : AV} (h : Mt x decIntsSh) : ∃ l : List Int, x = .ro (l.map iv) := by
  obtain ⟨es, rfl⟩ := h.sl_
  obtain ⟨l, rfl⟩ := rows_of fun e he => decInt (h.rows e he)
  exact ⟨l, rfl⟩
abbrev decPlateSh : List Sh := [.int .i64, .int .i64, .int .i64]
theorem decPlate {xs : List AV} (h : RL Mt xs decPlateSh) : ∃ c : Plate, xs = Plate.av c := by
  obtain ⟨x0, xs, rfl, h0, h⟩ := h.cons_inv
  obtain ⟨x1, xs, rfl, h1, h⟩ := h.cons_inv
  obtain ⟨x2, xs, rfl, h2, h⟩ := h.cons_inv
  obtain rfl := h.nil_inv
  obtain ⟨v0, rfl⟩ := Mt.i64 h0
  obtain ⟨v1, rfl⟩ := Mt.i64 h1
  obtain ⟨v2, rfl⟩ := Mt.i64 h2
  exact ⟨⟨v0, v1, v2⟩, rfl⟩
abbrev decFlightSh : List Sh := [.str, .int .i64, .str, .int .i64]
theorem decFlight {xs : List AV} (h : RL Mt xs decFlightSh) : ∃ c : Flight, xs = Flight.av c := by
  obtain ⟨x0, xs, rfl, h0, h⟩ := h.cons_inv
  obtain ⟨x1, xs, rfl, h1, h⟩ := h.cons_inv
  obtain ⟨x2, xs, rfl, h2, h⟩ := h.cons_inv
  obtain ⟨x3, xs, rfl, h3, h⟩ := h.cons_inv
  obtain rfl := h.nil_inv
  obtain ⟨v0, rfl⟩ := Mt.s_ h0
  obtain ⟨v1, rfl⟩ := Mt.i64 h1
  obtain ⟨v2, rfl⟩ := Mt.s_ h2
  obtain ⟨v3, rfl⟩ := Mt.i64 h3
  exact ⟨⟨v0, v1, v2, v3⟩, rfl⟩
abbrev decCartSh : List Sh := [.int .i64, .int .i64, .str, .int .i64, .str, .int .i64, .int .i64, .sl decPlateSh, .bool]
theorem decCart {xs : List AV} (h : RL Mt xs decCartSh) : ∃ c : Cart, xs = Cart.av c := by
  obtain ⟨x0, xs, rfl, h0, h⟩ := h.cons_inv
  obtain ⟨x1, xs, rfl, h1, h⟩ := h.cons_inv
  obtain ⟨x2, xs, rfl, h2, h⟩ := h.cons_inv
  obtain ⟨x3, xs, rfl, h3, h⟩ := h.cons_inv
  obtain ⟨x4, xs, rfl, h4, h⟩ := h.cons_inv
  obtain ⟨x5, xs, rfl, h5, h⟩ := h.cons_inv
  obtain ⟨x6, xs, rfl, h6, h⟩ := h.cons_inv
  obtain ⟨x7, xs, rfl, h7, h⟩ := h.cons_inv
  obtain ⟨x8, xs, rfl, h8, h⟩ := h.cons_inv
  obtain rfl := h.nil_inv
  obtain ⟨v0, rfl⟩ := Mt.i64 h0
  obtain ⟨v1, rfl⟩ := Mt.i64 h1
  obtain ⟨v2, rfl⟩ := Mt.s_ h2
  obtain ⟨v3, rfl⟩ := Mt.i64 h3
  obtain ⟨v4, rfl⟩ := Mt.s_ h4
  obtain ⟨v5, rfl⟩ := Mt.i64 h5
  obtain ⟨v6, rfl⟩ := Mt.i64 h6
  obtain ⟨e7, rfl⟩ := Mt.sl_ h7
  obtain ⟨v7, rfl⟩ := rows_of (fun e he => decPlate (h7.rows e he))
  obtain ⟨v8, rfl⟩ := Mt.b_ h8
  exact ⟨⟨v0, v1, ⟨v2, v3, v4, v5⟩, v6, v7, v8⟩, rfl⟩
abbrev decCartsSh : Sh := .sl decCartSh
theorem decCarts {x : AV} (h : Mt x decCartsSh) : ∃ l : List Cart, x = .ro (l.map Cart.av) := by
  obtain ⟨es, rfl⟩ := h.sl_
  obtain ⟨l, rfl⟩ := rows_of fun e he => decCart (h.rows e he)
  exact ⟨l, rfl⟩
end Go.Proofs.Ytbbedhidiffdgaa
