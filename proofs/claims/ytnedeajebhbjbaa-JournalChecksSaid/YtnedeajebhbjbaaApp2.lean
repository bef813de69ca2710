import Derived.Test.YtnedeajebhbjbaaApp
namespace Go.Proofs.Ytnedeajebhbjbaa
open Go.RowKit

def appR (b r : List UInt8) : List UInt8 × Int :=
  if (recs b).2 ≠ b.length then ([], 13)
  else if 4096 < r.length ∨ 4194304 < b.length + r.length + 8 then ([], 2)
  else (b ++ frameL (recs b).1.length r, 0)
theorem frame16_n (i : Int) (A : Option Addr) (n c : Nat) (l : List UInt8) (w : World) (hr : RdL RB 1 All w A l) (hl : l.length ≤ 5000000) (hi : i64ok i) (hn : n = l.length) :
    Calls Try.prog 16 #[.int .i64 i, .slice A n c] w (RetBE w (frameR i l)) := by
  subst hn; exact frame16_any i A c l w hr hl hi
theorem frame17_n (i : Int) (A : Option Addr) (n c : Nat) (l : List UInt8) (w : World) (hr : RdL RB 1 All w A l) (hl : l.length ≤ 5000000) (hi : i64ok i) (hn : n = l.length) :
    Calls Try.prog 17 #[.int .i64 i, .slice A n c] w (RetBE w (frameR i l)) := by
  subst hn; exact frame17_any i A c l w hr hl hi

set_option maxRecDepth 100000 in
set_option maxHeartbeats 1000000 in
theorem append27_any (A A' : Option Addr) (c c' : Nat) (b r : List UInt8) (w : World) (hr : RdL RB 1 All w A b) (hl : b.length ≤ 5000000) (hc : b.length ≤ c) (hm : c ≤ maxLen) (hr' : RdL RB 1 All w A' r) (hl' : r.length ≤ 5000000) :
    Calls Try.prog 27 #[.slice A b.length c, .slice A' r.length c'] w (RetBE w (appR b r)) := by
  have HR := Lib.hid hr
  have HR' := Lib.hid hr'
  have BD := Lib.hid (recs_bd b)
  go_enter Try.func27, Try.ntmps27
  go_wp2_with fail
  refine (records21_any A c b w hr hl hc hm).mono ?_
  clear hr hc hm hr'
  rintro e w1 ⟨A1, c1, rfl, -, -, -, hk1⟩
  have K1 := Lib.hid hk1
  clear hk1
  by_cases h0 : (recs b).2 ≠ b.length
  · have hb : (((recs b).2 : Int) != (b.length : Int)) = true := by rw [bne_iff_ne]; omega
    have FIN := Lib.hid (show RetBE w (appR b r) _ w1 by rw [appR, if_pos h0]; exact RetBE.fail w w1 13 K1.out)
    clear h0
    go_wp2_with fail
    go_ret2
    exact FIN.out
  have hb : (((recs b).2 : Int) != (b.length : Int)) = false := by rw [bne_eq_false_iff_eq]; omega
  have H0 := Lib.hid h0
  clear h0
  by_cases h1 : 4096 < r.length
  · have hd : decide (4096 < (r.length : Int)) = true := by rw [decide_eq_true_eq]; omega
    have FIN := Lib.hid (show RetBE w (appR b r) _ w1 by rw [appR, if_neg H0.out, if_pos (.inl h1)]; exact RetBE.fail w w1 2 K1.out)
    clear h1
    go_wp2_with fail
    go_ret2
    exact FIN.out
  have hd : decide (4096 < (r.length : Int)) = false := by rw [decide_eq_false_iff_not]; omega
  have hr4 : r.length ≤ 4096 := by omega
  have hq : ((recs b).2 : Int) + 4 + (r.length : Int) + 4 = (b.length : Int) + (r.length : Int) + 8 := by
    have := H0.out; omega
  have hn : (recs b).2 ≤ 5000000 := by have := BD.out.1; omega
  by_cases h2 : 4194304 < b.length + r.length + 8
  · have hd2 : decide ((4194304 : Int) < ((recs b).2 : Int) + 4 + (r.length : Int) + 4) = true := by rw [decide_eq_true_eq]; omega
    have FIN := Lib.hid (show RetBE w (appR b r) _ w1 by rw [appR, if_neg H0.out, if_pos (.inr h2)]; exact RetBE.fail w w1 2 K1.out)
    clear h2 hq
    go_wp2_with fail
    go_ret2
    exact FIN.out
  have hd2 : decide ((4194304 : Int) < ((recs b).2 : Int) + 4 + (r.length : Int) + 4) = false := by rw [decide_eq_false_iff_not]; omega
  have hidx : (recs b).1.length ≤ 5000000 := by have := BD.out; omega
  have hap : appR b r = (b ++ frameL (recs b).1.length r, 0) := by rw [appR, if_neg H0.out, if_neg (by omega)]
  have bd := BD.out
  have hfr : frameR (recs b).1.length r = (frameL (recs b).1.length r, 0) := by rw [frameR, if_neg (by omega), if_neg (by omega)]
  have HAP := Lib.hid hap
  have HFR := Lib.hid hfr
  clear h2 hq hap hfr h1 bd
  go_wp2_with fail
  refine (frame16_n _ _ _ _ r w1 (HR'.out.kept RB_good K1.out) (by omega) ?_ rfl).mono ?_
  · unfold i64ok; omega
  rw [HFR.out]
  rintro e w2 ⟨A2, c2, rfl, hc2, hm2, hr2, hk2⟩
  have hfl : (frameL (recs b).1.length r).length = r.length + 8 := frameL_len _ _
  have hz : ((0 : Int) != 0) = false := rfl
  have K2 := Lib.hid (K1.out.trans hk2)
  have R2 := Lib.hid hr2
  have HFL := Lib.hid hfl
  clear hk2 hr2 hc2 hm2 hfl
  go_wp2_with (at_builtin; refine wp_stop ?_)
  unfold wpStop
  refine wpList_app (base := w.heap.size) (S := All) (xs := []) RB_good Try.sty22 Own.nil (HR.out.kept RB_good K2.out) (.inr fun _ _ _ _ h => h) rfl rfl rfl (m := b.length) rfl rfl ?_ ?_ ?_ ?_
  · simp
  · omega
  · exact K2.out.size
  intro A4 c4 w4 own4 hc4 hm4 hk4 hb4
  rw [List.nil_append] at own4
  have k24 : Kept All w2 w4 := hk4.mono fun k _ _ => by simp [Value.ownBlock]
  have K4 := Lib.hid (K2.out.trans k24)
  have R4 := Lib.hid (R2.out.kept RB_good (k24.mono fun _ _ _ => trivial))
  have OWN4 := Lib.hid own4
  clear own4 hk4 hb4 k24
  go_wp2_with (at_builtin; refine wp_stop ?_)
  unfold wpStop
  refine wpList_app RB_good Try.sty22 OWN4.out R4.out (.inr fun _ _ _ _ h => h) rfl rfl rfl (m := b.length + (r.length + 8)) rfl rfl ?_ ?_ ?_ ?_
  · rw [HFL.out]
  · omega
  · exact K4.out.size
  intro A5 c5 w5 own5 hc5 hm5 hk5 hb5
  have K5 := Lib.hid (K4.out.through hk5 OWN4.out (Nat.le_refl _))
  have OWN5 := Lib.hid own5
  clear own5 hk5 hb5
  go_wp2_with fail
  go_ret2
  obtain ⟨A', c', hv, h5, h6, h7⟩ := OWN5.out.rd (S := Fr w) RB_good (fun k hk _ => hk)
  have hlen : (b ++ frameL (recs b).1.length r).length = b.length + (r.length + 8) := by rw [List.length_append, HFL.out]
  rw [hlen] at hv h5
  injection hv with e1 _ e2
  subst e1; subst e2
  rw [HAP.out]
  refine ⟨A5, c5, ?_, ?_, h6, h7, K5.out⟩
  · show _ = Ending.returned (.tuple #[.slice A5 (b ++ frameL (recs b).1.length r).length c5, .int .i64 0])
    rw [hlen]; rfl
  · show (b ++ frameL (recs b).1.length r).length ≤ c5
    rw [hlen]; exact h5
set_option maxRecDepth 100000 in
set_option maxHeartbeats 1000000 in
theorem append28_any (A A' : Option Addr) (c c' : Nat) (b r : List UInt8) (w : World) (hr : RdL RB 1 All w A b) (hl : b.length ≤ 5000000) (hc : b.length ≤ c) (hm : c ≤ maxLen) (hr' : RdL RB 1 All w A' r) (hl' : r.length ≤ 5000000) :
    Calls Try.prog 28 #[.slice A b.length c, .slice A' r.length c'] w (RetBE w (appR b r)) := by
  have HR := Lib.hid hr
  have HR' := Lib.hid hr'
  have BD := Lib.hid (recs_bd b)
  go_enter Try.func28, Try.ntmps28
  go_wp2_with fail
  refine (records24_any A c b w hr hl hc hm).mono ?_
  clear hr hc hm hr'
  rintro e w1 ⟨A1, c1, rfl, -, -, -, hk1⟩
  have K1 := Lib.hid hk1
  clear hk1
  by_cases h0 : (recs b).2 ≠ b.length
  · have hb : (((recs b).2 : Int) != (b.length : Int)) = true := by rw [bne_iff_ne]; omega
    have FIN := Lib.hid (show RetBE w (appR b r) _ w1 by rw [appR, if_pos h0]; exact RetBE.fail w w1 13 K1.out)
    clear h0
    go_wp2_with fail
    go_ret2
    exact FIN.out
  have hb : (((recs b).2 : Int) != (b.length : Int)) = false := by rw [bne_eq_false_iff_eq]; omega
  have H0 := Lib.hid h0
  clear h0
  by_cases h1 : 4096 < r.length
  · have hd : decide (4096 < (r.length : Int)) = true := by rw [decide_eq_true_eq]; omega
    have FIN := Lib.hid (show RetBE w (appR b r) _ w1 by rw [appR, if_neg H0.out, if_pos (.inl h1)]; exact RetBE.fail w w1 2 K1.out)
    clear h1
    go_wp2_with fail
    go_ret2
    exact FIN.out
  have hd : decide (4096 < (r.length : Int)) = false := by rw [decide_eq_false_iff_not]; omega
  have hr4 : r.length ≤ 4096 := by omega
  have hq : ((recs b).2 : Int) + (r.length : Int) + 8 = (b.length : Int) + (r.length : Int) + 8 := by
    have := H0.out; omega
  have hn : (recs b).2 ≤ 5000000 := by have := BD.out.1; omega
  by_cases h2 : 4194304 < b.length + r.length + 8
  · have hd2 : decide ((4194304 : Int) < ((recs b).2 : Int) + (r.length : Int) + 8) = true := by rw [decide_eq_true_eq]; omega
    have FIN := Lib.hid (show RetBE w (appR b r) _ w1 by rw [appR, if_neg H0.out, if_pos (.inr h2)]; exact RetBE.fail w w1 2 K1.out)
    clear h2 hq
    go_wp2_with fail
    go_ret2
    exact FIN.out
  have hd2 : decide ((4194304 : Int) < ((recs b).2 : Int) + (r.length : Int) + 8) = false := by rw [decide_eq_false_iff_not]; omega
  have hidx : (recs b).1.length ≤ 5000000 := by have := BD.out; omega
  have hap : appR b r = (b ++ frameL (recs b).1.length r, 0) := by rw [appR, if_neg H0.out, if_neg (by omega)]
  have bd := BD.out
  have hfr : frameR (recs b).1.length r = (frameL (recs b).1.length r, 0) := by rw [frameR, if_neg (by omega), if_neg (by omega)]
  have HAP := Lib.hid hap
  have HFR := Lib.hid hfr
  clear h2 hq hap hfr h1 bd
  go_wp2_with fail
  refine (frame17_n _ _ _ _ r w1 (HR'.out.kept RB_good K1.out) (by omega) ?_ rfl).mono ?_
  · unfold i64ok; omega
  rw [HFR.out]
  rintro e w2 ⟨A2, c2, rfl, hc2, hm2, hr2, hk2⟩
  have hfl : (frameL (recs b).1.length r).length = r.length + 8 := frameL_len _ _
  have hz : ((0 : Int) != 0) = false := rfl
  have K2 := Lib.hid (K1.out.trans hk2)
  have R2 := Lib.hid hr2
  have HFL := Lib.hid hfl
  clear hk2 hr2 hc2 hm2 hfl
  have own0 := Lib.hid (Own.lit (S := All) (e := 5) w2 [] ([] : List UInt8) (R := RB) (sz := 1) Enc.nil RB_good (by unfold maxLen; simp))
  go_wp2_with (at_builtin; refine wp_stop ?_)
  unfold wpStop
  refine wpList_app RB_good Try.sty22 own0.out (HR.out.kept RB_good (K2.out.alloc (.cells #[] 5))) (.inr fun _ _ _ _ h => h) rfl rfl rfl (m := b.length) rfl rfl ?_ ?_ ?_ ?_
  · simp
  · omega
  · simp
  intro A4 c4 w4 own4 hc4 hm4 hk4 hb4
  rw [List.nil_append] at own4
  have k24 : Kept All w2 w4 := ((Kept.refl All w2).alloc (.cells #[] 5)).through hk4 own0.out (Nat.le_refl _)
  replace own4 := own4.base K2.out.size
  have K4 := Lib.hid (K2.out.trans k24)
  have R4 := Lib.hid (R2.out.kept RB_good (k24.mono fun _ _ _ => trivial))
  have OWN4 := Lib.hid own4
  clear own4 hk4 hb4 k24
  go_wp2_with (at_builtin; refine wp_stop ?_)
  unfold wpStop
  refine wpList_app RB_good Try.sty22 OWN4.out R4.out (.inr fun _ _ _ _ h => h) rfl rfl rfl (m := b.length + (r.length + 8)) rfl rfl ?_ ?_ ?_ ?_
  · rw [HFL.out]
  · omega
  · exact K4.out.size
  intro A5 c5 w5 own5 hc5 hm5 hk5 hb5
  have K5 := Lib.hid (K4.out.through hk5 OWN4.out (Nat.le_refl _))
  have OWN5 := Lib.hid own5
  clear own5 hk5 hb5
  go_wp2_with fail
  go_ret2
  obtain ⟨A', c', hv, h5, h6, h7⟩ := OWN5.out.rd (S := Fr w) RB_good (fun k hk _ => hk)
  have hlen : (b ++ frameL (recs b).1.length r).length = b.length + (r.length + 8) := by rw [List.length_append, HFL.out]
  rw [hlen] at hv h5
  injection hv with e1 _ e2
  subst e1; subst e2
  rw [HAP.out]
  refine ⟨A5, c5, ?_, ?_, h6, h7, K5.out⟩
  · show _ = Ending.returned (.tuple #[.slice A5 (b ++ frameL (recs b).1.length r).length c5, .int .i64 0])
    rw [hlen]; rfl
  · show (b ++ frameL (recs b).1.length r).length ≤ c5
    rw [hlen]; exact h5
end Go.Proofs.Ytnedeajebhbjbaa
