import Derived.Test.YtnedeajebhbjbaaEnt
namespace Go.Proofs.Ytnedeajebhbjbaa
open Go.RowKit

theorem sh1_even_nat (m : Nat) (h : 2 * m < 4294967296) : sh1 (UInt32.ofNat (2 * m)) = UInt32.ofNat m := by
  have hn : (UInt32.ofNat (2 * m)).toNat = 2 * m := UInt32.toNat_ofNat_of_lt' h
  unfold sh1
  rw [if_neg]
  · apply UInt32.toNat_inj.1
    rw [UInt32.toNat_shiftRight, hn, UInt32.toNat_ofNat_of_lt' (by show m < 4294967296; omega)]
    simp [Nat.shiftRight_eq_div_pow]
  · intro he
    have := UInt32.toNat_inj.2 he
    simp [hn] at this
theorem shN_shift (j : Nat) : ∀ m, m * 2 ^ j < 4294967296 → shN j (UInt32.ofNat (m * 2 ^ j)) = UInt32.ofNat m := by
  induction j with
  | zero => intro m _; simp [shN]
  | succ j ih =>
    intro m h
    have e : m * 2 ^ (j + 1) = (2 * m) * 2 ^ j := by rw [Nat.pow_succ, Nat.mul_comm 2 m, Nat.mul_assoc, Nat.mul_comm 2]
    rw [e] at h ⊢
    have h2 : 2 * m < 4294967296 := Nat.lt_of_le_of_lt (Nat.le_mul_of_pos_right _ (Nat.two_pow_pos j)) h
    show sh1 (shN j _) = _
    rw [ih _ h, sh1_even_nat m h2]
theorem split8 (r : UInt32) : r = r.toUInt8.toUInt32 ^^^ UInt32.ofNat (r.toNat / 256 * 2 ^ 8) := by
  have hr := r.toNat_lt
  apply UInt32.toNat_inj.1
  rw [UInt32.toNat_xor, UInt32.toNat_ofNat_of_lt' (by show _ < 4294967296; omega)]
  have h1 : r.toUInt8.toUInt32.toNat = r.toNat % 256 := by simp
  rw [h1]
  apply Nat.eq_of_testBit_eq
  intro i
  have hm := Nat.testBit_mod_two_pow r.toNat 8 i
  have hd : (r.toNat / 256 * 2 ^ 8).testBit i = (decide (8 ≤ i) && r.toNat.testBit i) := by
    rw [show r.toNat / 256 = r.toNat / 2 ^ 8 from rfl, ← Nat.shiftLeft_eq, Nat.testBit_shiftLeft]
    by_cases h : 8 ≤ i
    · rw [Nat.testBit_div_two_pow]; simp [h]
    · simp [h]
  rw [Nat.testBit_xor, hd, show (256 : Nat) = 2 ^ 8 from rfl, hm]
  by_cases h : i < 8
  · have : ¬ 8 ≤ i := by omega
    simp [h, this]
  · have : 8 ≤ i := by omega
    simp [h, this]
theorem shr8_nat (r : UInt32) : r >>> 8 = UInt32.ofNat (r.toNat / 256) := by
  have hr := r.toNat_lt
  apply UInt32.toNat_inj.1
  rw [UInt32.toNat_shiftRight, UInt32.toNat_ofNat_of_lt' (by show _ < 4294967296; omega)]
  simp [Nat.shiftRight_eq_div_pow]
theorem stp_tab (r : UInt32) (x : UInt8) : stp r x = shN 8 (UInt32.ofNat (r.toUInt8 ^^^ x).toNat) ^^^ (r >>> 8) := by
  have e : r ^^^ x.toUInt32 = UInt32.ofNat (r.toUInt8 ^^^ x).toNat ^^^ UInt32.ofNat (r.toNat / 256 * 2 ^ 8) := by
    have h1 : UInt32.ofNat (r.toUInt8 ^^^ x).toNat = r.toUInt8.toUInt32 ^^^ x.toUInt32 := by
      apply UInt32.toNat_inj.1
      have := (r.toUInt8 ^^^ x).toNat_lt
      rw [UInt32.toNat_ofNat_of_lt' (by show _ < 4294967296; omega)]
      simp
    rw [h1, UInt32.xor_assoc, UInt32.xor_comm x.toUInt32, ← UInt32.xor_assoc, ← split8]
  rw [stp, e, shN_xor, shN_shift 8 _ (by have := r.toNat_lt; omega), shr8_nat]

theorem check37_any (r0 : UInt32) (T : Nat) (A : Option Addr) (c : Nat) (l : List UInt8) (w : World) (hT : Blk w T 57 (tabK 256)) (hr : RdL RB 1 All w A l) (hl : l.length ≤ 5000000) :
    Calls Try.prog 37 #[.pointer (some ⟨T, 0, none⟩), .int .u32 r0.toNat, .slice A l.length c] w fun e w' => e = .returned (.int .u32 (crc r0 l).toNat) ∧ w = w' := by
  have hT' := Lib.hid hT
  have hr' := Lib.hid hr
  clear hT hr
  go_enter Try.func37, Try.ntmps37
  go_wp2
  go_loop [1, 11] (fun r x => ∃ k : Nat, k ≤ l.length ∧ x = .int .i64 k ∧ r = .int .u32 (crc r0 (l.take k)).toNat) (fun _ x => l.length - (intOf x).toNat)
  case atStart => exact ⟨0, by omega, rfl, rfl⟩
  case round =>
    obtain ⟨k, hk, rfl, rfl⟩ := hrel
    by_cases hlt : k < l.length
    · obtain ⟨g, o, rfl, -, hc⟩ := byte_at hr'.out hlt
      have hs := crc_take r0 l k hlt
      generalize l[k] = x at *
      generalize hq : crc r0 (l.take k) = q at *
      rw [stp_tab] at hs
      have hj : bits .xor .u8 ((q.toNat : Int) % 256) (x.toNat : Int) = ((q.toUInt8 ^^^ x).toNat : Int) := by rw [w_u32_u8, w_xor8]
      generalize q.toUInt8 ^^^ x = j at *
      have hjl := u8_lt j
      have hct := hT'.out.cell j.toNat
      rw [tabK_get _ _ (by omega), if_pos (by omega)] at hct
      unfold tabV at hct
      generalize shN 8 (UInt32.ofNat j.toNat) = y at *
      have HS := Lib.hid hs
      have hql := q.toNat_lt
      clear hs hq
      go_wp2
      go_round
      case rel => exact ⟨k + 1, by omega, by go_num, by rw [w_shr8, w_xor32, HS.out]⟩
      case measure => simp [intOf]; omega
    · have hk' : k = l.length := by omega
      subst hk'
      rw [List.take_length]
      generalize hq : crc r0 l = q
      have HQ := Lib.hid hq
      clear hq
      go_wp2
      go_ret
      exact ⟨by rw [HQ.out]; rfl, rfl⟩

theorem number_any (i : Int) (T : Nat) (A : Option Addr) (c : Nat) (l : List UInt8) (w : World) (hT : Blk w T 57 (tabK 256)) (hr : RdL RB 1 All w A l) (hl : l.length ≤ 5000000) :
    Calls Try.prog 31 #[.pointer (some ⟨T, 0, none⟩), .int .i64 i, .slice A l.length c] w (RetU w (chk i l)) := by
  have e0 := Lib.hid (u32_mod i)
  have hT' := Lib.hid hT
  have hr' := Lib.hid hr
  clear hT hr
  go_enter Try.func31, Try.ntmps31
  go_wp2_with fail
  rw [e0.out]
  refine (four34_any _ _).mono ?_
  rintro e w1 ⟨A1, c1, rfl, -, -, h1, hk1⟩
  have h1' := Lib.hid h1
  have hk1' := Lib.hid hk1
  clear h1 hk1
  go_wp2_with fail
  refine (check37_any 0xFFFFFFFF T A1 c1 _ w1 (hT'.out.kept hk1'.out trivial) (h1'.out.mono RB_good fun _ _ _ => trivial) (by show 4 ≤ _; omega)).mono ?_
  rintro e w2 ⟨rfl, rfl⟩
  go_wp2_with fail
  refine (check37_any _ T A c l w1 (hT'.out.kept hk1'.out trivial) (hr'.out.kept RB_good hk1'.out) hl).mono ?_
  rintro e w2 ⟨rfl, rfl⟩
  generalize hq : crc (crc 4294967295 (fourL (u32 i))) l = q
  have HQ := Lib.hid hq
  clear hq
  go_wp2_with fail
  go_ret
  refine ⟨ret_u32 ?_, hk1'.out⟩
  rw [chk, HQ.out]
  exact w_not32 q

theorem check14_any (i : Int) (A : Option Addr) (c : Nat) (l : List UInt8) (w : World) (hr : RdL RB 1 All w A l) (hl : l.length ≤ 5000000) :
    Calls Try.prog 14 #[.int .i64 i, .slice A l.length c] w (RetU w (chk i l)) := by
  have hr' := Lib.hid hr
  clear hr
  go_enter Try.func14, Try.ntmps14
  go_wp2_with fail
  refine (entries_any w).mono ?_
  rintro e w1 ⟨rfl, hk1⟩
  have hk1' := Lib.hid hk1
  clear hk1
  have hz := fun W => zero57 W
  go_wp2_with (refine wpList_store_row (cs := tabK 256) (cur := tabK 0) (g := w1.heap.size) rfl rfl rfl rfl (Blk.new w1 57 (tabK 0)) (by rw [tabK_size]; exact info57) (by rw [tabK_size, tabK_size]) (tab_one _) ?_)
  clear hz
  intro w2 hb2 hg2
  have hk2 : Kept All w w2 := (hk1'.out.alloc _).grown hg2 fun k hk => .inr (by injection hk with hk; have := hk1'.out.size; omega)
  have hk2' := Lib.hid hk2
  have hb2' := Lib.hid hb2
  clear hk2 hb2 hg2
  go_wp2_with fail
  refine (number_any i _ A c l w2 hb2'.out (hr'.out.kept RB_good hk2'.out) hl).mono ?_
  rintro e w3 ⟨rfl, hk3⟩
  have hk3' := Lib.hid hk3
  clear hk3
  go_wp2_with fail
  go_ret
  exact ⟨rfl, hk2'.out.trans hk3'.out⟩
end Go.Proofs.Ytnedeajebhbjbaa
