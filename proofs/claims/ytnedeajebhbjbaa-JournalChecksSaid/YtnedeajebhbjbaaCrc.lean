import Derived.Laws.BitsAllLaws
namespace Go.Proofs.Ytnedeajebhbjbaa

def sh1 (r : UInt32) : UInt32 := if r % 2 = 1 then (r >>> 1) ^^^ 0xEDB88320 else r >>> 1
def shN : Nat → UInt32 → UInt32
  | 0, r => r
  | k+1, r => sh1 (shN k r)
def stp (r : UInt32) (x : UInt8) : UInt32 := shN 8 (r ^^^ x.toUInt32)
def crc (r : UInt32) (l : List UInt8) : UInt32 := l.foldl stp r
def fourL (n : UInt32) : List UInt8 := [(n >>> 24).toUInt8, (n >>> 16).toUInt8, (n >>> 8).toUInt8, n.toUInt8]
def u32 (i : Int) : UInt32 := UInt32.ofNat (i % 4294967296).toNat
def chk (i : Int) (l : List UInt8) : UInt32 := ~~~ (crc (crc 0xFFFFFFFF (fourL (u32 i))) l)

theorem u32_lt (r : UInt32) : (r.toNat : Int) < 4294967296 := by have := r.toNat_lt; omega
theorem u8_lt (r : UInt8) : (r.toNat : Int) < 256 := by have := r.toNat_lt; omega
theorem w_u8_u32 (x : UInt8) : (x.toNat : Int) % 4294967296 = (x.toUInt32.toNat : Int) := by
  have := x.toNat_lt; simp; omega
theorem w_xor32 (a b : UInt32) : bits .xor .u32 (a.toNat : Int) (b.toNat : Int) = ((a ^^^ b).toNat : Int) := by
  rw [u32_xor_nat _ _ a.toNat_lt b.toNat_lt]; simp
theorem w_xor8 (a b : UInt8) : bits .xor .u8 (a.toNat : Int) (b.toNat : Int) = ((a ^^^ b).toNat : Int) := by
  rw [u8_xor_nat _ _ a.toNat_lt b.toNat_lt]; simp
theorem w_shr1 (a : UInt32) : (a.toNat : Int) / (2 : Int) = ((a >>> 1).toNat : Int) := by
  have h := @UInt32.toNat_shiftRight a
  simp [h, Nat.shiftRight_eq_div_pow]
theorem w_shr8 (a : UInt32) : (a.toNat : Int) / (256 : Int) = ((a >>> 8).toNat : Int) := by
  have h := @UInt32.toNat_shiftRight a
  simp [h, Nat.shiftRight_eq_div_pow]
theorem w_shr16 (a : UInt32) : (a.toNat : Int) / (65536 : Int) = ((a >>> 16).toNat : Int) := by
  have h := @UInt32.toNat_shiftRight a
  simp [h, Nat.shiftRight_eq_div_pow]
theorem w_shr24 (a : UInt32) : (a.toNat : Int) / (16777216 : Int) = ((a >>> 24).toNat : Int) := by
  have h := @UInt32.toNat_shiftRight a
  simp [h, Nat.shiftRight_eq_div_pow]
theorem w_u32_u8 (a : UInt32) : (a.toNat : Int) % 256 = (a.toUInt8.toNat : Int) := by simp
theorem w_and1 (a : UInt32) : bits .and .u32 (a.toNat : Int) 1 = ((a.toNat % 2 : Nat) : Int) := by
  have := u32_and_nat a.toNat 1 a.toNat_lt (by omega)
  rw [show ((1 : Nat) : Int) = 1 from rfl] at this
  rw [this, nat_mask1]
theorem sh1_odd (a : UInt32) (h : (bits .and .u32 (a.toNat : Int) 1 == 1) = true) : (bits .xor .u32 ((a.toNat : Int) / 2) 3988292384) = ((sh1 a).toNat : Int) := by
  rw [w_shr1, show (3988292384 : Int) = ((0xEDB88320 : UInt32).toNat : Int) from rfl, w_xor32]
  rw [w_and1] at h
  have h2 : a % 2 = 1 := by
    apply UInt32.toNat_inj.1
    simp at h ⊢
    omega
  rw [sh1, if_pos h2]
theorem sh1_even (a : UInt32) (h : (bits .and .u32 (a.toNat : Int) 1 == 1) = false) : (a.toNat : Int) / 2 = ((sh1 a).toNat : Int) := by
  rw [w_shr1]
  rw [w_and1] at h
  have h2 : ¬ a % 2 = 1 := by
    intro h'
    have := UInt32.toNat_inj.2 h'
    simp at h this
    omega
  rw [sh1, if_neg h2]
theorem u32_mod (i : Int) : i % 4294967296 = ((u32 i).toNat : Int) := by
  unfold u32
  have h1 := Int.emod_nonneg i (show (4294967296 : Int) ≠ 0 by omega)
  have h2 := Int.emod_lt_of_pos i (show (0 : Int) < 4294967296 by omega)
  rw [UInt32.toNat_ofNat_of_lt' (by show _ < 4294967296; omega)]
  omega

/-! ## linearity -/
theorem sh1_bv (a : UInt32) : (sh1 a).toBitVec = (a.toBitVec >>> 1) ^^^ (if a.toBitVec.getLsbD 0 then 0xEDB88320#32 else 0#32) := by
  unfold sh1
  by_cases h : a % 2 = 1
  · rw [if_pos h]
    have : a.toBitVec.getLsbD 0 = true := by
      have := congrArg UInt32.toNat h
      simp at this
      rw [BitVec.getLsbD, Nat.testBit_zero]
      simpa using this
    rw [if_pos this]
    simp [UInt32.toBitVec_shiftRight]
  · rw [if_neg h]
    have : a.toBitVec.getLsbD 0 = false := by
      rw [BitVec.getLsbD, Nat.testBit_zero]
      simp
      have h1 : ¬ a.toNat % 2 = 1 := fun e => h (UInt32.toNat_inj.1 (by simpa using e))
      omega
    rw [this, if_neg (by simp)]
    simp [UInt32.toBitVec_shiftRight]
theorem sh1_xor (a b : UInt32) : sh1 (a ^^^ b) = sh1 a ^^^ sh1 b := by
  apply UInt32.toBitVec_inj.1
  rw [UInt32.toBitVec_xor, sh1_bv, sh1_bv, sh1_bv, UInt32.toBitVec_xor, BitVec.getLsbD_xor]
  have e : (a.toBitVec ^^^ b.toBitVec) >>> 1 = a.toBitVec >>> 1 ^^^ b.toBitVec >>> 1 := by
    ext i hi; simp
  rw [e]
  generalize a.toBitVec >>> 1 = p
  generalize b.toBitVec >>> 1 = q
  have hx : ∀ u v c : BitVec 32, (u ^^^ c) ^^^ (v ^^^ c) = u ^^^ v := fun u v c => by
    rw [BitVec.xor_assoc, ← BitVec.xor_assoc c, BitVec.xor_comm c, BitVec.xor_assoc v, BitVec.xor_self, BitVec.xor_zero]
  cases a.toBitVec.getLsbD 0 <;> cases b.toBitVec.getLsbD 0
  · simp
  · simp [BitVec.xor_assoc]
  · simp only [Bool.true_bne, Bool.not_false, if_true, Bool.true_xor, Bool.bne_false, Bool.false_eq_true, if_false, BitVec.xor_zero]
    rw [BitVec.xor_assoc, BitVec.xor_assoc, BitVec.xor_comm q]
  · simp [hx]
theorem shN_xor (n : Nat) (a b : UInt32) : shN n (a ^^^ b) = shN n a ^^^ shN n b := by
  induction n with
  | zero => rfl
  | succ n ih => simp only [shN]; rw [ih, sh1_xor]
theorem sh1_zero : sh1 0 = 0 := by decide
theorem shN_zero (n : Nat) : shN n 0 = 0 := by
  induction n with
  | zero => rfl
  | succ n ih => simp only [shN]; rw [ih, sh1_zero]
theorem sh1_eq_zero (a : UInt32) (h : sh1 a = 0) : a = 0 := by
  have hb := sh1_bv a
  rw [h] at hb
  apply UInt32.toBitVec_inj.1
  cases h0 : a.toBitVec.getLsbD 0 with
  | false =>
    rw [h0] at hb
    simp at hb
    apply BitVec.eq_of_getLsbD_eq
    intro i hi
    cases i with
    | zero => rw [h0]; simp
    | succ i =>
      have := congrArg (fun v => BitVec.getLsbD v i) hb
      simp [BitVec.getLsbD_ushiftRight] at this
      rw [Nat.add_comm] at this
      simp [this]
  | true =>
    rw [h0] at hb
    have := congrArg (fun v => BitVec.getLsbD v 31) hb
    simp [BitVec.getLsbD_ushiftRight] at this
theorem shN_eq_zero (n : Nat) (a : UInt32) (h : shN n a = 0) : a = 0 := by
  induction n with
  | zero => exact h
  | succ n ih => exact ih (sh1_eq_zero _ h)
theorem shN_inj (n : Nat) {a b : UInt32} (h : shN n a = shN n b) : a = b := by
  have : shN n (a ^^^ b) = 0 := by rw [shN_xor, h, UInt32.xor_self]
  exact UInt32.xor_eq_zero_iff.1 (shN_eq_zero _ _ this)
theorem stp_inj {a b : UInt32} {x : UInt8} (h : stp a x = stp b x) : a = b := by
  have := shN_inj 8 h
  have h2 := congrArg (· ^^^ x.toUInt32) this
  simpa [UInt32.xor_assoc] using h2
theorem crc_inj (l : List UInt8) : ∀ {a b : UInt32}, crc a l = crc b l → a = b := by
  induction l with
  | nil => intro a b h; exact h
  | cons x l ih => intro a b h; exact stp_inj (ih h)
theorem crc_append (r : UInt32) (l m : List UInt8) : crc r (l ++ m) = crc (crc r l) m := by simp [crc]
end Go.Proofs.Ytnedeajebhbjbaa
