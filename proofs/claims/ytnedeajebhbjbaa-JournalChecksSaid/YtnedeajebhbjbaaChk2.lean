import Derived.Test.YtnedeajebhbjbaaChk
namespace Go.Proofs.Ytnedeajebhbjbaa
open Go.RowKit

theorem crc_take (r : UInt32) (l : List UInt8) (k : Nat) (hk : k < l.length) : crc r (l.take (k + 1)) = stp (crc r (l.take k)) l[k] := by
  rw [List.take_succ_eq_append_getElem hk, crc_append]; rfl
theorem ret_u32 {a b : Int} (h : a = b) : Ending.returned (.int .u32 a) = .returned (.int .u32 b) := by rw [h]

theorem w_not32 (a : UInt32) : bits .xor .u32 IntKind.u32.max (a.toNat : Int) = ((~~~ a).toNat : Int) := by
  have h := w_xor32 4294967295 a
  rw [show (((4294967295 : UInt32).toNat : Nat) : Int) = IntKind.u32.max from rfl] at h
  rw [h]
  have e : (4294967295 : UInt32) ^^^ a = ~~~ a := by
    apply UInt32.toBitVec_inj.1
    rw [UInt32.toBitVec_xor, UInt32.toBitVec_not]
    rw [show (4294967295 : UInt32).toBitVec = BitVec.allOnes 32 by decide, BitVec.allOnes_xor]
  rw [e]
theorem w_not8 (a : UInt8) : bits .xor .u8 IntKind.u8.max (a.toNat : Int) = ((~~~ a).toNat : Int) := by
  have h := w_xor8 255 a
  rw [show (((255 : UInt8).toNat : Nat) : Int) = IntKind.u8.max from rfl] at h
  rw [h]
  have e : (255 : UInt8) ^^^ a = ~~~ a := by
    apply UInt8.toBitVec_inj.1
    rw [UInt8.toBitVec_xor, UInt8.toBitVec_not]
    rw [show (255 : UInt8).toBitVec = BitVec.allOnes 8 by decide, BitVec.allOnes_xor]
  rw [e]

def RetU (w : World) (n : UInt32) (e : Ending) (w' : World) : Prop := e = .returned (.int .u32 n.toNat) ∧ Kept All w w'

set_option maxRecDepth 100000 in
theorem check15_any (i : Int) (A : Option Addr) (c : Nat) (l : List UInt8) (w : World) (hr : RdL RB 1 All w A l) (hl : l.length ≤ 5000000) :
    Calls Try.prog 15 #[.int .i64 i, .slice A l.length c] w (RetU w (chk i l)) := by
  have e0 := Lib.hid (u32_mod i)
  go_enter Try.func15, Try.ntmps15
  go_wp2_with fail
  rw [e0.out]
  refine (four32_any _ _).mono ?_
  rintro e w1 ⟨A1, c1, rfl, -, -, h1, hk1⟩
  have h1' := Lib.hid h1
  have hk1' := Lib.hid hk1
  have hr' := Lib.hid (hr.kept RB_good hk1)
  clear h1 hk1 hr
  have hlen : (fourL (u32 i)).length = 4 := rfl
  rw [hlen]
  clear hlen
  go_wp2_with fail
  go_loop [5, 13] (fun r x => ∃ k : Nat, k ≤ 4 ∧ x = .int .i64 k ∧ r = .int .u32 (crc 0xFFFFFFFF ((fourL (u32 i)).take k)).toNat) (fun _ x => 4 - (intOf x).toNat)
  case atStart => exact ⟨0, by omega, rfl, rfl⟩
  case round =>
    obtain ⟨k, hk, rfl, rfl⟩ := hrel
    by_cases hlt : k < 4
    · obtain ⟨g, o, rfl, -, hc⟩ := byte_at h1'.out (k := k) hlt
      have hs := crc_take 0xFFFFFFFF (fourL (u32 i)) k hlt
      generalize (fourL (u32 i))[k] = x at *
      generalize hq : crc 0xFFFFFFFF ((fourL (u32 i)).take k) = q at *
      have HS := Lib.hid hs
      clear hs hq
      go_wp2_with (go_at_call 33; refine (step_any _ _ _).mono ?_; rintro e w' ⟨rfl, rfl⟩)
      go_round
      case rel => exact ⟨k + 1, by omega, by go_num, by rw [HS.out]⟩
      case measure => simp [intOf]; omega
    · obtain rfl : k = 4 := by omega
      have hq : crc 0xFFFFFFFF ((fourL (u32 i)).take 4) = crc 0xFFFFFFFF (fourL (u32 i)) := rfl
      rw [hq]
      clear hq
      generalize hr0 : crc 0xFFFFFFFF (fourL (u32 i)) = r0
      have HR0 := Lib.hid hr0
      clear hr0 hlt hk h1'
      go_wp2_with fail
      go_loop [5, 8] (fun r x => ∃ k : Nat, k ≤ l.length ∧ x = .int .i64 k ∧ r = .int .u32 (crc r0 (l.take k)).toNat) (fun _ x => l.length - (intOf x).toNat)
      case atStart => exact ⟨0, by omega, rfl, rfl⟩
      case round =>
        obtain ⟨k, hk, rfl, rfl⟩ := hrel
        by_cases hlt : k < l.length
        · obtain ⟨g, o, rfl, -, hc⟩ := byte_at hr'.out hlt
          have hs := crc_take r0 l k hlt
          generalize l[k] = x at *
          generalize hq : crc r0 (l.take k) = q at *
          have HS := Lib.hid hs
          clear hs hq
          go_wp2_with (go_at_call 33; refine (step_any _ _ _).mono ?_; rintro e w' ⟨rfl, rfl⟩)
          go_round
          case rel => exact ⟨k + 1, by omega, by go_num, by rw [HS.out]⟩
          case measure => simp [intOf]; omega
        · have hk' : k = l.length := by omega
          subst hk'
          rw [List.take_length]
          generalize hq : crc r0 l = q
          have HQ := Lib.hid hq
          clear hq
          go_wp2
          go_ret
          refine ⟨ret_u32 ?_, hk1'.out⟩
          rw [chk, HR0.out, HQ.out]
          exact w_not32 q
end Go.Proofs.Ytnedeajebhbjbaa
