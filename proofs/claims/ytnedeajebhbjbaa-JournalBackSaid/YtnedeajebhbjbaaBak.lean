import Derived.Test.YtnedeajebhbjbaaBase
import Derived.Deep.RegionHeld
namespace Go.Proofs.Ytnedeajebhbjbaa
open Go.RowKit
set_option maxRecDepth 100000 in
set_option maxHeartbeats 1000000 in
theorem walk8 (a0 : Option Addr) (len0 cap0 : Nat) (z0 : List Int) (a1 : Option Addr) (len1 cap1 : Nat) (z1 : List Int) (w : World) (w0 : IsRow .i64 w a0 len0 cap0 z0) (w1 : IsRow .u8 w a1 len1 cap1 z1) :
    Calls Try.prog 8 #[.slice a0 len0 cap0, .slice a1 len1 cap1] w fun e w' => e = .returned (.bool true) ∧ Below w.heap.size w w' := by
  obtain ⟨l, hl1, hl2, hl3, hl4, hl5⟩ := w0.ints
  obtain ⟨b, hb1, hb2, hb3, hb4⟩ := w1.bytes
  subst hb1
  subst hl1
  have HB4 := Lib.hid hb4
  have HB2 := Lib.hid hb2
  have HB3 := Lib.hid hb3
  clear w0 w1 hb4
  go_enter Try.func8, Try.ntmps8
  go_wp2_with fail
  refine (new_n w _ _ _ l hl4 rfl hl2 hl3 hl5).mono ?_
  clear hl2 hl3 hl4 hl5
  rintro e w2 ⟨s, rfl, hs, hsrc, hk2⟩
  have HS := Lib.hid hs
  have HSRC := Lib.hid hsrc
  have K2 := Lib.hid hk2
  clear hs hsrc hk2
  go_upto_region 2 with (fail)
  go_cut [6] (fun v wx => ∃ (A : Option Addr) (c : Nat) (xs : List (List UInt8)), v = .slice A xs.length c ∧ Hid (ListAt w 11 300 A c xs wx))
  case first =>
    obtain ⟨n, hn1, hn2, hmn⟩ : ∃ n : Nat, n ≤ b.length ∧ n ≤ 300 ∧ (if (300 : Int) < (b.length : Int) then (300 : Int) else (b.length : Int)) = (n : Int) := by
      by_cases h : b.length ≤ 300
      · exact ⟨b.length, by omega, h, by rw [if_neg (by omega)]⟩
      · exact ⟨300, by omega, by omega, by rw [if_pos (by omega)]; rfl⟩
    have hn3 : (n : Int) ≤ (cap1 : Int) := by omega
    have HT := Lib.hid (show RdL RB 1 (fun k => k < w.heap.size) w a1 (b.take n) from ((HB4.out.part 0 n a1 (fun g o e _ => by rw [e]; simp)).bump RB_good).mono RB_good fun k _ h => h.2)
    have hkw : ∀ W3, Kept (· ≠ s) w2 W3 → Kept All w W3 := fun W3 h => K2.out.outer (by rw [HS.out]; exact Nat.le_refl _) h
    have HKW := Lib.hid hkw
    have HCELL := Lib.hid (fun (W3 : World) (h : Kept (· ≠ s) w2 W3) => show RBs (fun k => k < w.heap.size) W3 [.slice a1 n cap1] (b.take n) from
      ⟨a1, cap1, by rw [List.length_take, Nat.min_eq_left hn1], by rw [List.length_take]; omega, HB3.out, HT.out.kept RB_good ((hkw W3 h).mono fun _ _ _ => trivial)⟩)
    have hsw : w.heap.size ≤ s := by rw [HS.out]; exact Nat.le_refl _
    have HLEN := Lib.hid (show (b.take n).length ≤ 300 by rw [List.length_take]; omega)
    have hs2 := K2.out.size
    have hs3 := HSRC.out.lt
    have HLITA := Lib.hid (fun (W3 : World) (h : Kept (· ≠ s) w2 W3) => RdL.lit (e := 22) (S := fun k => k < w.heap.size ∨ k = W3.heap.size) (Enc.single RBs_good (RBs_good.mono (HCELL.out W3 h) fun k _ h => Or.inl h)) RBs_good (Or.inr rfl))
    have HLITB := Lib.hid (fun (W3 : World) (h : Kept (· ≠ s) ((w2.alloc (.cells [Value.slice a1 n cap1].toArray 22)).drew) W3) => ((HLITA.out w2 (Kept.refl _ _)).drew RBs_good).kept RBs_good (h.mono fun k _ hk => by rcases hk with hk | hk <;> omega))
    clear hkw
    go_region_law (first
      | ((with_reducible refine guard_call 13 rfl ?_); refine step_call (f := 13) (vs := [.pointer (some ⟨s, 0, none⟩), .int .i64 10]) rfl rfl rfl (enter13 _ _) (records_any s 10 _ ?_ (by omega) (by omega)) ?_; exact HSRC.out.kept (by first | exact (Kept.refl _ _).drew | exact ((Kept.refl _ _).alloc _).drew); rintro e w3 ⟨xs, A3, c3, rfl, h1, h2, h3, h4, h5, h6, h7⟩; refine ⟨_, rfl, ?_⟩; have H5 := Lib.hid h5; have H7 := Lib.hid h7; have H4 := Lib.hid h4; clear h1 h2 h4 h5 h6 h7)
      | ((with_reducible refine guard_append rfl ?_); (with_reducible refine guard_alloc ?_); refine step_app (S' := fun k => k < w.heap.size ∨ k = w3.heap.size) RBs_good Try.sty28 ((H5.out.mono RBs_good (S' := All) fun _ _ _ => trivial).alloc RBs_good _) (HLITA.out w3 (Kept.of_drew H7.out)) (.inl ?_) rfl rfl rfl (m := xs.length + 1) rfl rfl rfl ?_ ?_ ?_; (intro k hk h; refine ⟨trivial, fun he => ?_⟩; have h1 := H5.out.blk k he.symm; have e1 : w2.drew.heap.size = w2.heap.size := rfl; rcases h with h | h <;> omega); omega; (have := H7.out.size; simp at this ⊢; omega); intro A4 c4 w4 own4 hc4 hm4 hk4 hb4)
      | ((with_reducible refine guard_append rfl ?_); refine step_app (S' := fun k => k < w.heap.size ∨ k = w2.heap.size) RBs_good Try.sty28 (H5.out.mono RBs_good (S' := All) fun _ _ _ => trivial) (HLITB.out w3 H7.out) (.inl ?hsB) rfl rfl rfl (m := xs.length + 1) rfl rfl rfl ?hlB H7.out.size ?_; (case hsB => intro k hk h; refine ⟨trivial, fun he => ?_⟩; have h1 := H5.out.blk k he.symm; have e1 : (w2.alloc (.cells [Value.slice a1 n cap1].toArray 22)).drew.heap.size = w2.heap.size + 1 := (by simp); rcases h with h | h <;> omega); (case hlB => omega); intro A4 c4 w4 own4 hc4 hm4 hk4 hb4))
    all_goals
      have KW : Kept All w w4 := by
        first
          | exact ((HKW.out w3 H7.out.of_drew).alloc _).through hk4 ((H5.out.mono RBs_good (S' := All) fun _ _ _ => trivial).alloc RBs_good _) hs2
          | exact (HKW.out w3 (((Kept.refl _ _).alloc _).trans H7.out.of_drew)).through hk4 (H5.out.mono RBs_good (S' := All) fun _ _ _ => trivial) (by simp; omega)
      obtain ⟨hlen, HLA⟩ := mk_list (most := 11) (big := 300) own4 (by simp; omega) (app_small H4.out (by omega) HLEN.out) KW
      have HFIN := Lib.hid HLA
      clear KW HLA own4 hk4 hb4 H5 H7
      go_wp2_with fail
      go_meet
      exact ⟨A4, c4, xs ++ [b.take n], by rw [hlen], HFIN⟩
  case rest =>
    obtain ⟨A, c, xs, rfl, HL⟩ := hcut
    have hbig := HL.out.big
    have hcnt := HL.out.cnt
    have hpos : posL xs xs.length ≤ 4194304 := by have h1 := posL_le xs 300 hbig; have h2 := Nat.mul_le_mul_right 308 hcnt; omega
    have hj := jrn_some xs (fun q hq => by have := hbig q hq; omega) hpos
    have hrec := recs_join xs [] (fun q hq => by have := hbig q hq; omega) (by rw [joinF_len]; exact hpos) (firstL_nil _)
    rw [List.append_nil] at hrec
    have hjl : (joinF 0 xs).length ≤ 4194304 := by rw [joinF_len]; exact hpos
    have HJ := Lib.hid hj
    have HREC := Lib.hid hrec
    clear hpos hj hrec hbig
    go_wp2_with fail
    refine (written_any A _ c xs wc HL.out.rd rfl (by omega) (fun q hq => by have := HL.out.big q hq; omega)).mono ?_
    rw [HJ.out]
    rintro e w5 ⟨A5, c5, rfl, h51, h52, h53, h54⟩
    generalize hjj : joinF 0 xs = j at *
    have HC5 := Lib.hid h51
    have HM5 := Lib.hid h52
    have HR5 := Lib.hid (h53.mono RB_good (S' := All) fun _ _ _ => trivial)
    have HK5 := Lib.hid h54
    clear h51 h52 h53 h54 hjj HJ
    go_wp2_with fail
    refine (records21_n A5 _ c5 j w5 HR5.out (by omega) rfl HC5.out HM5.out).mono ?_
    rw [HREC.out]
    rintro e w6 ⟨A6, c6, rfl, -, -, h63, h64⟩
    have HR6 := Lib.hid (h63.mono RBs_good (S' := All) fun _ _ _ => trivial)
    have HK6 := Lib.hid h64
    have HX6 := Lib.hid (HL.out.rd.kept RBs_good (HK5.out.trans h64))
    have HJ6 := Lib.hid (HR5.out.kept RB_good h64)
    have hrp : repairL j = j := by rw [repairL, HREC.out]; simp
    have HRP := Lib.hid hrp
    have KALL := Lib.hid (HL.out.kept.trans (HK5.out.trans h64))
    have hbt := bs_toList
    clear h63 h64 hrp
    go_wp2_with fail
    have hcv6 := conv22 HJ6.out rfl c5
    go_region_held (fun w' => Sem.run Try.prog (convert 22 9 (.slice A5 j.length c5)) w' = .ok (.string (bs j)) w') (first | exact hcv6 | exact conv22 (HJ6.out.drew RB_good) rfl c5 | exact hcv7 | exact hcv8 | exact conv22 (HJ6.out.kept RB_good K9.out) rfl c5) (first
      | (go_at_call 23; refine (same_any A6 A xs.length xs.length c6 c xs xs _ ?_ ?_ rfl rfl ?_ ?_).mono ?_; exact HR6.out.drew RBs_good; exact HX6.out.drew RBs_good; omega; omega; rintro e w7 ⟨rfl, hk7⟩; have K7 := Lib.hid hk7.of_drew; have hcv7 := conv22 (HJ6.out.kept RB_good K7.out) rfl c5; clear hk7)
      | (go_at_call 25; refine (repair25_n A5 _ c5 j _ (HJ6.out.kept RB_good K7.out) ?_ rfl HC5.out HM5.out).mono ?_; omega; rw [HRP.out]; rintro e w8 ⟨A8, c8, rfl, -, -, h83, hk8⟩; have K8 := Lib.hid (K7.out.trans hk8); have hcv8 := conv22 (HJ6.out.kept RB_good K8.out) rfl c5; have hcv9 := conv22 h83 rfl c8; clear h83 hk8)
      | (go_at_call 18; refine (awake_any _).mono ?_; rintro e w9 ⟨rfl, hk9⟩; have K9 := Lib.hid (K8.out.trans hk9); clear hk9))
    all_goals
      go_wp2_with fail
      go_ret
      exact ⟨rfl, (KALL.out.trans K9.out).below⟩
end Go.Proofs.Ytnedeajebhbjbaa
