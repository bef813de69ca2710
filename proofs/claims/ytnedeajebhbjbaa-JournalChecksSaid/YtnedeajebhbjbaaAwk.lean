import Derived.Test.YtnedeajebhbjbaaGen
import Derived.Lib.SlBytesConst
namespace Go.Proofs.Ytnedeajebhbjbaa
open Go.RowKit

theorem chk0 : chk 0 [] = 558161692 := by decide +kernel
theorem frm0 : frameR 0 [] = ([0, 0, 255, 255, 33, 68, 223, 28], 0) := by
  have : frameL 0 [] = [0, 0, 255, 255, 33, 68, 223, 28] := by decide +kernel
  rw [frameR, if_neg (by omega), if_neg (by simp), this]
def abcJ : List UInt8 := frameL 0 [97, 98, 99]
theorem recs_nil : recs [] = ([], 0) := by decide +kernel
theorem app_abc : appR [] [97, 98, 99] = (abcJ, 0) := by
  have e : (recs []).2 = 0 := by rw [recs_nil]
  rw [appR, if_neg (by rw [e]; simp), if_neg (by simp), recs_nil]; rfl
theorem recs_abc : recs abcJ = ([[97, 98, 99]], 11) := by decide +kernel
theorem abc_len : abcJ.length = 11 := by decide +kernel

theorem records21_n (A : Option Addr) (n c : Nat) (b : List UInt8) (w : World) (hr : RdL RB 1 All w A b) (hl : b.length ≤ 5000000) (hn : n = b.length) (hc : n ≤ c) (hm : c ≤ maxLen) :
    Calls Try.prog 21 #[.slice A n c] w (RetRec w (recs b)) := by
  subst hn; exact records21_any A c b w hr hl hc hm
theorem check14_n (i : Int) (A : Option Addr) (n c : Nat) (l : List UInt8) (w : World) (hr : RdL RB 1 All w A l) (hl : l.length ≤ 5000000) (hn : n = l.length) :
    Calls Try.prog 14 #[.int .i64 i, .slice A n c] w (RetU w (chk i l)) := by
  subst hn; exact check14_any i A c l w hr hl

theorem RdL.litM {α : Type} {R : Rel α} {sz : Nat} {S : Nat → Prop} {w : World} {cs : List Value} {xs : List α} (h : Enc R sz S w cs xs) (hR : Good R sz) (hS : S w.heap.size) (e : TypeId) (fr : Nat × Nat) :
    RdL R sz S (w.alloc (.cells cs.toArray e fr)) (some ⟨w.heap.size, 0, none⟩) xs := by
  refine ⟨cs, h.kept hR ((Kept.refl _ _).alloc _), fun _ => ⟨_, _, rfl, hS, fun j u hu => ?_⟩⟩
  rw [Nat.zero_add, World.cell?_alloc_mark]
  simpa using hu
set_option maxRecDepth 100000 in
set_option maxHeartbeats 1000000 in
theorem awake_any (w : World) : Calls Try.prog 18 #[] w fun e w' => e = .returned (.bool true) ∧ Kept All w w' := by
  go_enter Try.func18, Try.ntmps18
  go_wp2_with fail
  refine (frame16_n 0 none 0 0 [] w RdL.nil (by simp) (by unfold i64ok; omega) rfl).mono ?_
  rw [frm0]
  rintro e w1 ⟨A1, c1, rfl, -, -, hr1, hk1⟩
  have K1 := Lib.hid hk1
  have R1 := Lib.hid hr1
  clear hk1 hr1
  have hcv := fun (w : World) (C : Array Value) (n c : Nat) => Lib.run_convert_bytes_const (P := Try.prog) w 22 5 C n c under22 under5
  go_wp2_with fail
  have lit : RdL RB 1 All (w1.alloc (.cells #[.int .u8 97, .int .u8 98, .int .u8 99] 5 (3, 4))) (some ⟨w1.heap.size, 0, none⟩) [97, 98, 99] := RdL.litM (e := 5) (Enc.flat1 (f := u8v) (S := All) (w := w1) [97, 98, 99]) RB_good trivial (3, 4)
  refine (append27_n none _ 0 3 0 3 [] [97, 98, 99] _ RdL.nil (by simp) rfl (by simp) (by unfold maxLen; omega) lit rfl (by simp)).mono ?_
  rw [app_abc]
  clear lit hcv
  rintro e w2 ⟨A2, c2, rfl, hc2, hm2, hr2, hk2⟩
  have K2 := Lib.hid (((K1.out.alloc _).trans hk2))
  have K12 := Lib.hid hk2
  have R2 := Lib.hid hr2
  rw [show (abcJ, (0 : Int)).1.length = 11 from abc_len] at hc2
  rw [show (abcJ, (0 : Int)).1.length = 11 from abc_len]
  have C2 := Lib.hid hc2
  have M2 := Lib.hid hm2
  clear hk2 hr2 hc2 hm2
  go_wp2_with fail
  refine (records21_n A2 11 c2 abcJ w2 (R2.out.mono RB_good fun _ _ _ => trivial) (by rw [abc_len]; omega) abc_len.symm C2.out M2.out).mono ?_
  rw [recs_abc]
  rintro e w3 ⟨A3, c3, rfl, -, -, hr3, hk3⟩
  obtain ⟨g, o, A4, c4, hA, hc, -, -, hr4⟩ := list_at (S := All) (hr3.mono RBs_good fun _ _ _ => trivial) (k := 0) (by simp)
  have hA' : A3 = some ⟨g, o, none⟩ := hA
  subst hA'
  have K3 := Lib.hid (K2.out.trans hk3)
  have K13 := Lib.hid (((Kept.refl All w1).alloc (.cells #[.int .u8 97, .int .u8 98, .int .u8 99] 5 (3, 4))).trans (K12.out.trans hk3))
  have C4 := Lib.hid hc
  have R4 := Lib.hid (show RdL RB 1 All w3 A4 [97, 98, 99] from hr4)
  clear hA hr3 hk3 hr4 hc
  go_wp2_with fail
  refine (check14_n 0 none 0 0 [] w3 RdL.nil (by simp) rfl).mono ?_
  rintro e w4 ⟨rfl, hk4⟩
  rw [chk0]
  have K4 := Lib.hid (K3.out.trans hk4)
  have hcell : w4.cell? ⟨g, o, none⟩ = some (.slice A4 3 c4) := hk4.cell C4.out trivial
  have hcv1 := conv22 (A := A1) (R1.out.kept RB_good ((K13.out.trans hk4).mono fun _ _ _ => trivial)) (n := 8) rfl c1
  have hcv2 := conv22 (R4.out.kept RB_good hk4) (n := 3) rfl c4
  have hbt := bs_toList
  clear hk4
  go_wp2_with fail
  go_ret
  exact ⟨rfl, K4.out⟩
end Go.Proofs.Ytnedeajebhbjbaa
