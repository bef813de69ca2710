import Derived.Test.YtnedeajebhbjbaaSrc
import Derived.Test.YtnedeajebhbjbaaCrc
namespace Go.Proofs.Ytnedeajebhbjbaa
open Go.RowKit

def u8v (x : UInt8) : Value := .int .u8 (x.toNat : Int)
abbrev RB : Rel UInt8 := flat fun x => [u8v x]
theorem RB_good : Good RB 1 := one_good fun _ => rfl
theorem byte_at {S : Nat → Prop} {w : World} {A : Option Addr} {xs : List UInt8} (h : RdL RB 1 S w A xs) {k : Nat} (hk : k < xs.length) :
    ∃ g o, A = some ⟨g, o, none⟩ ∧ S g ∧ w.cell? ⟨g, o + k, none⟩ = some (.int .u8 (xs[k].toNat : Int)) := by
  obtain ⟨g, o, u, hA, hs, hc, hr⟩ := h.at1 hk RB_good
  refine ⟨g, o, hA, hs, ?_⟩
  have : [u] = [u8v xs[k]] := hr
  injection this with h1
  rw [hc, h1]; rfl
def Fr (w : World) : Nat → Prop := fun k => w.heap.size ≤ k
abbrev All : Nat → Prop := fun _ => True
/-- A new slice of bytes is returned. -/
def RetB (w : World) (xs : List UInt8) (e : Ending) (w' : World) : Prop :=
  ∃ A c, e = .returned (.slice A xs.length c) ∧ xs.length ≤ c ∧ c ≤ maxLen ∧ RdL RB 1 (Fr w) w' A xs ∧ Kept All w w'

theorem Try.sty22 : Sty Try.prog 22 5 (.int .u8 0) 1 1 := ⟨by kernel_rfl, by kernel_rfl, rfl, by decide, by decide⟩

theorem step_any (r : UInt32) (x : UInt8) (w : World) :
    Calls Try.prog 33 #[.int .u32 r.toNat, .int .u8 x.toNat] w fun e w' => e = .returned (.int .u32 (stp r x).toNat) ∧ w = w' := by
  have e0 : bits .xor .u32 (r.toNat : Int) ((x.toNat : Int) % 4294967296) = ((r ^^^ x.toUInt32).toNat : Int) := by rw [w_u8_u32, w_xor32]
  have E0 := Lib.hid e0
  clear e0
  go_enter Try.func33, Try.ntmps33
  go_wp2
  go_loop [0, 5] (fun t i => ∃ k : Nat, k ≤ 8 ∧ i = .int .i64 k ∧ t = .int .u32 (shN k (r ^^^ x.toUInt32)).toNat) (fun _ i => 8 - (intOf i).toNat)
  case atStart => exact ⟨0, by omega, rfl, by rw [E0.out]; rfl⟩
  case round =>
    obtain ⟨k, hk, rfl, rfl⟩ := hrel
    generalize hq : shN k (r ^^^ x.toUInt32) = q
    have hq' : sh1 q = shN (k + 1) (r ^^^ x.toUInt32) := by rw [← hq]; rfl
    have HQ := Lib.hid hq
    have HQ' := Lib.hid hq'
    clear hq hq'
    have hlt := q.toNat_lt
    by_cases h8 : k < 8
    · go_wp2
      · have h := ‹(bits .and .u32 (q.toNat : Int) 1 == 1) = true›
        go_round
        case rel => exact ⟨k + 1, by omega, by go_num, by rw [sh1_odd q h, HQ'.out]⟩
        case measure => simp [intOf]; omega
      · have h := ‹(bits .and .u32 (q.toNat : Int) 1 == 1) = false›
        go_round
        case rel => exact ⟨k + 1, by omega, by go_num, by rw [sh1_even q h, HQ'.out]⟩
        case measure => simp [intOf]; omega
    · obtain rfl : k = 8 := by omega
      go_wp2
      go_ret
      exact ⟨by rw [stp, HQ.out]; rfl, rfl⟩

theorem four_lit (n : UInt32) (w : World) : RetB w (fourL n) (.returned (.slice (some ⟨w.heap.size, 0, none⟩) 4 4)) (w.alloc (.cells #[u8v (n >>> 24).toUInt8, u8v (n >>> 16).toUInt8, u8v (n >>> 8).toUInt8, u8v n.toUInt8] 5)) := by
  refine ⟨_, 4, rfl, by simp [fourL], by unfold maxLen; omega, RdL.of_map ?_, (Kept.refl _ _).alloc _⟩
  intro _
  refine ⟨_, _, rfl, Nat.le_refl _, fun j u hu => ?_⟩
  rw [Nat.zero_add, (Blk.new w 5 _).cell]
  have := (List.getElem?_eq_some_iff.1 hu).1
  simp [fourL] at this
  rw [← hu]
  simp [fourL]
theorem four_eq (n : UInt32) : (#[.int .u8 ((n.toNat : Int) / 16777216), .int .u8 ((n.toNat : Int) / 65536 % 256), .int .u8 ((n.toNat : Int) / 256 % 256), .int .u8 ((n.toNat : Int) % 256)] : Array Value) =
    #[u8v (n >>> 24).toUInt8, u8v (n >>> 16).toUInt8, u8v (n >>> 8).toUInt8, u8v n.toUInt8] := by
  have h := u32_lt n
  rw [← Int.emod_eq_of_lt (a := (n.toNat : Int) / 16777216) (b := 256) (by omega) (by omega)]
  rw [w_shr24, w_shr16, w_shr8, w_u32_u8, w_u32_u8, w_u32_u8, w_u32_u8]; rfl
theorem four32_any (n : UInt32) (w : World) : Calls Try.prog 32 #[.int .u32 n.toNat] w (RetB w (fourL n)) := by
  have hlt := u32_lt n
  have fin := four_lit n w
  rw [← four_eq] at fin
  have FIN := Lib.hid fin
  clear fin
  go_enter Try.func32, Try.ntmps32
  go_wp2
  go_ret
  exact FIN.out
theorem four34_any (n : UInt32) (w : World) : Calls Try.prog 34 #[.int .u32 n.toNat] w (RetB w (fourL n)) := by
  have hlt := u32_lt n
  have fin := four_lit n w
  rw [← four_eq] at fin
  have FIN := Lib.hid fin
  clear fin
  go_enter Try.func34, Try.ntmps34
  go_wp2
  go_ret
  exact FIN.out
end Go.Proofs.Ytnedeajebhbjbaa
