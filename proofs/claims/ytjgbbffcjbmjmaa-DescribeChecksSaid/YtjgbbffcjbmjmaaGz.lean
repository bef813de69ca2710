import Derived.Test.YtjgbbffcjbmjmaaFo
import Derived.Test.YtjgbbffcjbmjmaaAbJ
namespace Go.Proofs.Ytjgbbffcjbmjmaa
open Go.RowKit
set_option linter.unusedSimpArgs false
set_option linter.unusedVariables false

/-! ### Arguments -/
abbrev decISh : Sh := .int .i64
theorem decI {x : AV} (h : Mt x decISh) : ∃ n : Int, x = .v (.int .i64 n) := h.i64
abbrev decIntSh : List Sh := [.int .i64]
theorem decInt {xs : List AV} (h : RL Mt xs decIntSh) : ∃ c : Int, xs = iv c := by
  obtain ⟨x0, xs, rfl, h0, h⟩ := h.cons_inv
  obtain rfl := h.nil_inv
  obtain ⟨v0, rfl⟩ := Mt.i64 h0
  exact ⟨v0, rfl⟩
abbrev decIntsSh : Sh := .sl decIntSh
theorem decInts {x : AV} (h : Mt x decIntsSh) : ∃ l : List Int, x = .ro (l.map iv) := by
  obtain ⟨es, rfl⟩ := h.sl_
  obtain ⟨l, rfl⟩ := rows_of fun e he => decInt (h.rows e he)
  exact ⟨l, rfl⟩
abbrev decDescSh : List Sh := [.str, .int .i64, .int .i64, .int .i64, .str]
theorem decDesc {xs : List AV} (h : RL Mt xs decDescSh) : ∃ c : Desc, xs = Desc.av c := by
  obtain ⟨x0, xs, rfl, h0, h⟩ := h.cons_inv
  obtain ⟨x1, xs, rfl, h1, h⟩ := h.cons_inv
  obtain ⟨x2, xs, rfl, h2, h⟩ := h.cons_inv
  obtain ⟨x3, xs, rfl, h3, h⟩ := h.cons_inv
  obtain ⟨x4, xs, rfl, h4, h⟩ := h.cons_inv
  obtain rfl := h.nil_inv
  obtain ⟨v0, rfl⟩ := Mt.s_ h0
  obtain ⟨v1, rfl⟩ := Mt.i64 h1
  obtain ⟨v2, rfl⟩ := Mt.i64 h2
  obtain ⟨v3, rfl⟩ := Mt.i64 h3
  obtain ⟨v4, rfl⟩ := Mt.s_ h4
  exact ⟨⟨v0, v1, v2, v3, v4⟩, rfl⟩
abbrev decDescsSh : Sh := .sl decDescSh
theorem decDescs {x : AV} (h : Mt x decDescsSh) : ∃ l : List Desc, x = .ro (l.map Desc.av) := by
  obtain ⟨es, rfl⟩ := h.sl_
  obtain ⟨l, rfl⟩ := rows_of fun e he => decDesc (h.rows e he)
  exact ⟨l, rfl⟩
abbrev decMatSh : List Sh := [.sl decIntSh, .sl decIntSh, .sl decIntSh, .int .i64]
theorem decMat {xs : List AV} (h : RL Mt xs decMatSh) : ∃ c : Mat, xs = Mat.av c := by
  obtain ⟨x0, xs, rfl, h0, h⟩ := h.cons_inv
  obtain ⟨x1, xs, rfl, h1, h⟩ := h.cons_inv
  obtain ⟨x2, xs, rfl, h2, h⟩ := h.cons_inv
  obtain ⟨x3, xs, rfl, h3, h⟩ := h.cons_inv
  obtain rfl := h.nil_inv
  obtain ⟨v0, rfl⟩ := decInts h0
  obtain ⟨v1, rfl⟩ := decInts h1
  obtain ⟨v2, rfl⟩ := decInts h2
  obtain ⟨v3, rfl⟩ := Mt.i64 h3
  exact ⟨⟨v0, v1, v2, v3⟩, rfl⟩
end Go.Proofs.Ytjgbbffcjbmjmaa
