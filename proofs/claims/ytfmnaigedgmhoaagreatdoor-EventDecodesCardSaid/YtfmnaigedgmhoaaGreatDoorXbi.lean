import Derived.Test.YtfmnaigedgmhoaaGreatDoorXbh
namespace Go.Proofs.YtfmnaigedgmhoaaGreatDoor
open Go.RowKit
set_option linter.unusedSimpArgs false
set_option linter.unusedVariables false
set_option maxRecDepth 100000
abbrev decISh : Sh := .int .i64
theorem decI {x : AV} (h : Mt x decISh) : ∃ n : Int, x = .v (.int .i64 n) := h.i64
abbrev decIntSh : List Sh := [.int .i64]
theorem decInt {xs : List AV} (h : RL Mt xs decIntSh) : ∃ c : Int, xs = iv c := by
  obtain ⟨x0, xs, rfl, h0, h⟩ := h.cons_inv
  obtain rfl := h.nil_inv
  obtain ⟨v0, rfl⟩ := Mt.i64 h0
  exact ⟨v0, rfl⟩
abbrev decIntsSh : Sh := .sl decIntSh
theorem decInts {x : AV} (h : Mt x decIntsSh) : ∃ l : List Int, x = .ro (l.map iv) := by
  obtain ⟨es, rfl⟩ := h.sl_
  obtain ⟨l, rfl⟩ := rows_of fun e he => decInt (h.rows e he)
  exact ⟨l, rfl⟩
theorem Mt.byte {x : AV} (h : Mt x (.int .u8)) : ∃ b : UInt8, x = .v (.int .u8 (b.toNat : Nat)) := by
  cases h with
  | int h =>
    rename_i n
    have hw : (0 : Int) ≤ n ∧ n ≤ 255 := by
      rw [Lit.wf, Bool.and_eq_true, decide_eq_true_eq, decide_eq_true_eq] at h
      exact h
    exact ⟨UInt8.ofNat n.toNat, by congr 2; rw [UInt8.toNat_ofNat']; omega⟩
abbrev decYSh : Sh := .int .u8
theorem decY {x : AV} (h : Mt x decYSh) : ∃ b : UInt8, x = .v (.int .u8 (b.toNat : Nat)) := h.byte
abbrev decByteSh : List Sh := [.int .u8]
theorem decByte {xs : List AV} (h : RL Mt xs decByteSh) : ∃ c : UInt8, xs = bv c := by
  obtain ⟨x0, xs, rfl, h0, h⟩ := h.cons_inv
  obtain rfl := h.nil_inv
  obtain ⟨v0, rfl⟩ := Mt.byte h0
  exact ⟨v0, rfl⟩
abbrev decBytesSh : Sh := .sl decByteSh
theorem decBytes {x : AV} (h : Mt x decBytesSh) : ∃ l : List UInt8, x = .ro (l.map bv) := by
  obtain ⟨es, rfl⟩ := h.sl_
  obtain ⟨l, rfl⟩ := rows_of fun e he => decByte (h.rows e he)
  exact ⟨l, rfl⟩
abbrev decOpSh : List Sh := [.int .i64, .int .i64, .int .i64, .int .i64, .int .i64, .int .i64, .int .i64, .int .i64, .int .i64, .int .i64]
abbrev decReportSh : List Sh := [.int .i64, .bool, .str]
abbrev decEvSh : List Sh := [.int .i64, .int .i64, .str, .int .i64, .int .i64, .int .i64, .int .i64, .int .i64, .bool, .sl decReportSh, .int .i64, .int .i64, .str, .int .i64, .str, .int .i64, .int .i64, .int .i64, .int .i64, .int .i64, .int .i64, .int .i64, .int .i64, .int .i64, .int .i64, .int .i64, .int .i64, .sl decOpSh, .str, .int .i64, .str, .int .i64]
end Go.Proofs.YtfmnaigedgmhoaaGreatDoor
