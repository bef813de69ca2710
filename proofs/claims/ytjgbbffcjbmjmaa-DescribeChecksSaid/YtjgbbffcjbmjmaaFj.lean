import Derived.Test.YtjgbbffcjbmjmaaFi
namespace Go.Proofs.Ytjgbbffcjbmjmaa
open Go.RowKit
set_option linter.unusedSimpArgs false
set_option linter.unusedVariables false

theorem mod2 {n : Nat} : n % 2 = 0 ∨ n % 2 = 1 := by omega
def pcn (n : Nat) : Int := sumN 8 fun i => ((n / 2 ^ i % 2 : Nat) : Int)
theorem pb_all : ∀ n : Fin 256, pbF ((n.val : Nat) : Int) = pcn n.val := by decide +kernel
theorem pb_eq {n : Nat} (h : n < 256) : pbF (n : Int) = pcn n := pb_all ⟨n, h⟩
theorem ofInt_nat {n : Nat} (h : n < 256) : (BitVec.ofInt 64 (n : Int)).toNat = n := by
  rw [BitVec.toNat_ofInt]
  omega
theorem wrap_small {n : Nat} (h : n < 256) : IntKind.i64.wrap (n : Int) = n := IntWalk.i64_in _ (by omega)
theorem wrapu_small {n : Nat} (h : n < 256) : IntKind.u64.wrap (n : Int) = n := by
  simp only [IntKind.wrap, IntKind.bits, IntKind.signed]
  simp
  omega
def anF (f g : Int) : Int := IntKind.u64.wrap (IntKind.i64.wrap ((BitVec.ofInt 64 f &&& BitVec.ofInt 64 g).toNat))
def xoF (f g : Int) : Int := IntKind.u64.wrap (IntKind.i64.wrap ((BitVec.ofInt 64 f ^^^ BitVec.ofInt 64 g).toNat))
theorem anF_eq {m n : Nat} (hm : m < 256) (hn : n < 256) : anF m n = ((m &&& n : Nat) : Int) := by
  unfold anF
  have h : m &&& n < 256 := Nat.and_lt_two_pow (n := 8) m hn
  rw [BitVec.toNat_and, ofInt_nat hm, ofInt_nat hn, wrap_small h, wrapu_small h]
theorem xoF_eq {m n : Nat} (hm : m < 256) (hn : n < 256) : xoF m n = ((m ^^^ n : Nat) : Int) := by
  unfold xoF
  have h : m ^^^ n < 256 := Nat.xor_lt_two_pow (n := 8) hm hn
  rw [BitVec.toNat_xor, ofInt_nat hm, ofInt_nat hn, wrap_small h, wrapu_small h]
def bitV (x y : Nat) : Int := if x + y = 2 then 30 else if x + y = 1 then -20 else 0
def bt (n i : Nat) : Nat := n / 2 ^ i % 2
def feaS (f g : Int) (j : Nat) : Int := sumN j fun i => bitV (bt f.toNat i) (bt g.toNat i)
theorem bt_tb {n i : Nat} : bt n i = if n.testBit i then 1 else 0 := by
  unfold bt
  rw [Nat.testBit_eq_decide_div_mod_eq]
  by_cases h : n / 2 ^ i % 2 = 1
  · simp [h]
  · simp [h]; omega
theorem sumN_mul {c : Int} {g : Nat → Int} : ∀ {n : Nat}, sumN n (fun i => c * g i) = c * sumN n g
  | 0 => by simp [sumN]
  | n + 1 => by
    rw [sumN_succ, sumN_succ, sumN_mul (n := n), Int.mul_add]
theorem fea_eq {f g : Int} (hf : 0 ≤ f ∧ f ≤ 255) (hg : 0 ≤ g ∧ g ≤ 255) : 30 * pbF (anF f g) - 20 * pbF (xoF f g) = feaS f g 8 := by
  obtain ⟨m, rfl⟩ := Int.eq_ofNat_of_zero_le hf.1
  obtain ⟨n, rfl⟩ := Int.eq_ofNat_of_zero_le hg.1
  have hm : m < 256 := by omega
  have hn : n < 256 := by omega
  rw [anF_eq hm hn, xoF_eq hm hn, pb_eq (Nat.and_lt_two_pow (n := 8) m hn), pb_eq (Nat.xor_lt_two_pow (n := 8) hm hn)]
  unfold pcn feaS
  have h1 : (30 : Int) * sumN 8 (fun i => ((((m &&& n) / 2 ^ i % 2 : Nat)) : Int)) - 20 * sumN 8 (fun i => (((m ^^^ n) / 2 ^ i % 2 : Nat) : Int)) = sumN 8 (fun i => 30 * ((((m &&& n) / 2 ^ i % 2 : Nat)) : Int)) + sumN 8 (fun i => (-20) * (((m ^^^ n) / 2 ^ i % 2 : Nat) : Int)) := by
    rw [sumN_mul, sumN_mul]; omega
  rw [h1, ← sumN_add]
  refine sumN_congr fun i _ => ?_
  show 30 * ((bt (m &&& n) i : Nat) : Int) + (-20) * ((bt (m ^^^ n) i : Nat) : Int) = bitV (bt m i) (bt n i)
  rw [bt_tb, bt_tb, bt_tb, bt_tb, Nat.testBit_and, Nat.testBit_xor]
  cases m.testBit i <;> cases n.testBit i <;> rfl
theorem pcn_bd {n : Nat} : ∀ j, 0 ≤ sumN j (fun i => ((n / 2 ^ i % 2 : Nat) : Int)) ∧ sumN j (fun i => ((n / 2 ^ i % 2 : Nat) : Int)) ≤ j
  | 0 => ⟨Int.le_refl _, Int.le_refl _⟩
  | j + 1 => by
    rw [sumN_succ]
    have := pcn_bd (n := n) j
    have h2 : n / 2 ^ j % 2 < 2 := Nat.mod_lt _ (by omega)
    omega
theorem an_bd {f g : Int} (hf : 0 ≤ f ∧ f ≤ 255) (hg : 0 ≤ g ∧ g ≤ 255) : 0 ≤ pbF (anF f g) ∧ pbF (anF f g) ≤ 8 := by
  obtain ⟨m, rfl⟩ := Int.eq_ofNat_of_zero_le hf.1
  obtain ⟨n, rfl⟩ := Int.eq_ofNat_of_zero_le hg.1
  have hm : m < 256 := by omega
  have hn : n < 256 := by omega
  rw [anF_eq hm hn, pb_eq (Nat.and_lt_two_pow (n := 8) m hn)]
  exact pcn_bd 8
theorem xo_bd {f g : Int} (hf : 0 ≤ f ∧ f ≤ 255) (hg : 0 ≤ g ∧ g ≤ 255) : 0 ≤ pbF (xoF f g) ∧ pbF (xoF f g) ≤ 8 := by
  obtain ⟨m, rfl⟩ := Int.eq_ofNat_of_zero_le hf.1
  obtain ⟨n, rfl⟩ := Int.eq_ofNat_of_zero_le hg.1
  have hm : m < 256 := by omega
  have hn : n < 256 := by omega
  rw [xoF_eq hm hn, pb_eq (Nat.xor_lt_two_pow (n := 8) hm hn)]
  exact pcn_bd 8
/-! ### The score -/
def dig (x y : UInt8) : Int := if ((x.toNat : Int) = 63 ∨ (y.toNat : Int) = 63) then 0 else if (x.toNat : Int) = (y.toNat : Int) then 40 else -60
def patS (a b : ByteArray) (j : Nat) : Int := sumN j fun i => dig (chr a i) (chr b i)
def patV (a b : ByteArray) : Int := if emp a = true ∨ emp b = true then 0 else patS a b 10
def porV (a b : ByteArray) : Int := if emp a = false ∧ (a.toList == b.toList) = true then 50 else 0
def sco (a b : Desc) : Int := agr a.col b.col 100 (-50) + agr a.typ b.typ 100 (-100) + patV a.pat b.pat + feaS a.fea b.fea 8 + porV a.port b.port
def scoreF (a b : Desc) : Int := if (validB a && validB b) = true then max 0 (sco a b) else 0
theorem dig_bd {x y : UInt8} : -60 ≤ dig x y ∧ dig x y ≤ 40 := by unfold dig; split; omega; split <;> omega
theorem patS_bd {a b : ByteArray} : ∀ j : Nat, -(60 * (j : Int)) ≤ patS a b j ∧ patS a b j ≤ 40 * j
  | 0 => ⟨Int.le_refl _, Int.le_refl _⟩
  | j + 1 => by
    unfold patS
    rw [sumN_succ]
    have h1 := patS_bd (a := a) (b := b) j
    unfold patS at h1
    have h2 := dig_bd (x := chr a j) (y := chr b j)
    omega
theorem bitV_bd {x y : Nat} : -20 ≤ bitV x y ∧ bitV x y ≤ 30 := by unfold bitV; split; omega; split <;> omega
theorem feaS_bd {f g : Int} : ∀ j : Nat, -(20 * (j : Int)) ≤ feaS f g j ∧ feaS f g j ≤ 30 * j
  | 0 => ⟨Int.le_refl _, Int.le_refl _⟩
  | j + 1 => by
    unfold feaS
    rw [sumN_succ]
    have h1 := feaS_bd (f := f) (g := g) j
    unfold feaS at h1
    have h2 := bitV_bd (x := bt f.toNat j) (y := bt g.toNat j)
    omega
theorem agr_bd1 {a b : Int} : -50 ≤ agr a b 100 (-50) ∧ agr a b 100 (-50) ≤ 100 := by unfold agr; split; omega; split <;> omega
theorem agr_bd2 {a b : Int} : -100 ≤ agr a b 100 (-100) ∧ agr a b 100 (-100) ≤ 100 := by unfold agr; split; omega; split <;> omega
theorem pat_size {d : Desc} (h : VP d) (he : emp d.pat = false) : d.pat.size = 10 := by
  have h1 := h.pat
  rw [he, Bool.false_or] at h1
  unfold pat10 at h1
  rw [Bool.and_eq_true] at h1
  have := of_decide_eq_true h1.2
  omega
end Go.Proofs.Ytjgbbffcjbmjmaa
