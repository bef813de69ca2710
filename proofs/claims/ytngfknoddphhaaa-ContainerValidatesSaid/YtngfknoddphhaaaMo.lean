import Derived.Test.YtngfknoddphhaaaLa
import Derived.Test.YtngfknoddphhaaaLm
import Derived.Test.YtngfknoddphhaaaAbJ
namespace Go.Proofs.Ytngfknoddphhaaa
open Go.RowKit
set_option linter.unusedSimpArgs false
set_option linter.unusedVariables false

/-! ### Arguments -/
abbrev decIntSh : List Sh := [.int .i64]
theorem decInt {xs : List AV} (h : RL Mt xs decIntSh) : ∃ c : Int, xs = iv c := by
  obtain ⟨x0, xs, rfl, h0, h⟩ := h.cons_inv
  obtain rfl := h.nil_inv
  obtain ⟨v0, rfl⟩ := Mt.i64 h0
  exact ⟨v0, rfl⟩
abbrev decIntsSh : Sh := .sl decIntSh
theorem decInts {x : AV} (h : Mt x decIntsSh) : ∃ l : List Int, x = .ro (l.map iv) := by
  obtain ⟨es, rfl⟩ := h.sl_
  obtain ⟨l, rfl⟩ := rows_of fun e he => decInt (h.rows e he)
  exact ⟨l, rfl⟩
abbrev decPieceSh : List Sh := [.int .i64, .int .i64, .int .i64, .int .i64, .int .i64]
theorem decPiece {xs : List AV} (h : RL Mt xs decPieceSh) : ∃ c : Piece, xs = Piece.av c := by
  obtain ⟨x0, xs, rfl, h0, h⟩ := h.cons_inv
  obtain ⟨x1, xs, rfl, h1, h⟩ := h.cons_inv
  obtain ⟨x2, xs, rfl, h2, h⟩ := h.cons_inv
  obtain ⟨x3, xs, rfl, h3, h⟩ := h.cons_inv
  obtain ⟨x4, xs, rfl, h4, h⟩ := h.cons_inv
  obtain rfl := h.nil_inv
  obtain ⟨v0, rfl⟩ := Mt.i64 h0
  obtain ⟨v1, rfl⟩ := Mt.i64 h1
  obtain ⟨v2, rfl⟩ := Mt.i64 h2
  obtain ⟨v3, rfl⟩ := Mt.i64 h3
  obtain ⟨v4, rfl⟩ := Mt.i64 h4
  exact ⟨⟨⟨v0, v1, v2⟩, v3, v4⟩, rfl⟩
abbrev decPlateSh : List Sh := [.int .i64, .int .i64, .int .i64]
theorem decPlate {xs : List AV} (h : RL Mt xs decPlateSh) : ∃ c : Plate, xs = Plate.av c := by
  obtain ⟨x0, xs, rfl, h0, h⟩ := h.cons_inv
  obtain ⟨x1, xs, rfl, h1, h⟩ := h.cons_inv
  obtain ⟨x2, xs, rfl, h2, h⟩ := h.cons_inv
  obtain rfl := h.nil_inv
  obtain ⟨v0, rfl⟩ := Mt.i64 h0
  obtain ⟨v1, rfl⟩ := Mt.i64 h1
  obtain ⟨v2, rfl⟩ := Mt.i64 h2
  exact ⟨⟨v0, v1, v2⟩, rfl⟩
abbrev decContSh : List Sh := [.int .i64, .str, .int .i64, .str, .int .i64, .int .i64, .int .i64, .int .i64, .int .i64, .int .i64, .sl decPieceSh]
theorem decCont {xs : List AV} (h : RL Mt xs decContSh) : ∃ c : Container, xs = Container.av c := by
  obtain ⟨x0, xs, rfl, h0, h⟩ := h.cons_inv
  obtain ⟨x1, xs, rfl, h1, h⟩ := h.cons_inv
  obtain ⟨x2, xs, rfl, h2, h⟩ := h.cons_inv
  obtain ⟨x3, xs, rfl, h3, h⟩ := h.cons_inv
  obtain ⟨x4, xs, rfl, h4, h⟩ := h.cons_inv
  obtain ⟨x5, xs, rfl, h5, h⟩ := h.cons_inv
  obtain ⟨x6, xs, rfl, h6, h⟩ := h.cons_inv
  obtain ⟨x7, xs, rfl, h7, h⟩ := h.cons_inv
  obtain ⟨x8, xs, rfl, h8, h⟩ := h.cons_inv
  obtain ⟨x9, xs, rfl, h9, h⟩ := h.cons_inv
  obtain ⟨x10, xs, rfl, h10, h⟩ := h.cons_inv
  obtain rfl := h.nil_inv
  obtain ⟨v0, rfl⟩ := Mt.i64 h0
  obtain ⟨v1, rfl⟩ := Mt.s_ h1
  obtain ⟨v2, rfl⟩ := Mt.i64 h2
  obtain ⟨v3, rfl⟩ := Mt.s_ h3
  obtain ⟨v4, rfl⟩ := Mt.i64 h4
  obtain ⟨v5, rfl⟩ := Mt.i64 h5
  obtain ⟨v6, rfl⟩ := Mt.i64 h6
  obtain ⟨v7, rfl⟩ := Mt.i64 h7
  obtain ⟨v8, rfl⟩ := Mt.i64 h8
  obtain ⟨v9, rfl⟩ := Mt.i64 h9
  obtain ⟨e10, rfl⟩ := Mt.sl_ h10
  obtain ⟨v10, rfl⟩ := rows_of (fun e he => decPiece (h10.rows e he))
  exact ⟨⟨v0, ⟨v1, v2, v3, v4⟩, v5, v6, v7, v8, v9, v10⟩, rfl⟩
abbrev decContsSh : Sh := .sl decContSh
theorem decConts {x : AV} (h : Mt x decContsSh) : ∃ l : List Container, x = .ro (l.map Container.av) := by
  obtain ⟨es, rfl⟩ := h.sl_
  obtain ⟨l, rfl⟩ := rows_of fun e he => decCont (h.rows e he)
  exact ⟨l, rfl⟩
end Go.Proofs.Ytngfknoddphhaaa
