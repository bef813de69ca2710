import Derived.Test.YtnedeajebhbjbaaTrn
namespace Go.Proofs.Ytnedeajebhbjbaa
open Go.RowKit

abbrev RZ : Rel Int := flat fun n => [.int .i64 n]
theorem RZ_good : Good RZ 1 := one_good fun _ => rfl
theorem int_at {S : Nat → Prop} {w : World} {A : Option Addr} {xs : List Int} (h : RdL RZ 1 S w A xs) {k : Nat} (hk : k < xs.length) :
    ∃ g o, A = some ⟨g, o, none⟩ ∧ S g ∧ w.cell? ⟨g, o + k, none⟩ = some (.int .i64 xs[k]) := by
  obtain ⟨g, o, u, hA, hs, hc, hr⟩ := h.at1 hk RZ_good
  refine ⟨g, o, hA, hs, ?_⟩
  have : [u] = [.int .i64 xs[k]] := hr
  injection this with h1
  rw [hc, h1]
set_option maxRecDepth 100000 in
set_option maxHeartbeats 2000000 in
theorem walk3 (idx : Int) (a0 : Option Addr) (len0 cap0 : Nat) (z0 : List Int) (a1 : Option Addr) (len1 cap1 : Nat) (z1 : List Int) (w : World) (wi : i64ok idx) (w0 : IsRow .u8 w a0 len0 cap0 z0) (w1 : IsRow .i64 w a1 len1 cap1 z1) :
    Calls Try.prog 3 #[.int .i64 idx, .slice a0 len0 cap0, .slice a1 len1 cap1] w fun e w' => e = .returned (.bool true) ∧ Kept All w w' := by
  obtain ⟨l, hl1, hl2, hl3, hl4, hl5⟩ := w1.ints
  obtain ⟨b, hb1, hb2, hb3, hb4⟩ := w0.bytes
  subst hb1
  subst hl1
  have HB4 := Lib.hid hb4
  have HB2 := Lib.hid hb2
  have HB3 := Lib.hid hb3
  have WI := Lib.hid wi
  clear w0 w1 hb4 wi
  go_enter Try.func3, Try.ntmps3
  go_wp2_with fail
  refine (new_n w _ _ _ l hl4 rfl hl2 hl3 hl5).mono ?_
  clear hl2 hl3 hl4 hl5
  rintro e w2 ⟨s, rfl, hs, hsrc, hk2⟩
  have HS := Lib.hid (show w.heap.size ≤ s by omega)
  have HSRC := Lib.hid hsrc
  have K2 := Lib.hid hk2
  clear hs hsrc hk2
  obtain ⟨n, hn1, hn2, hmn⟩ : ∃ n : Nat, n ≤ b.length ∧ n ≤ 300 ∧ (if (300 : Int) < (b.length : Int) then (300 : Int) else (b.length : Int)) = (n : Int) := by
    by_cases h : b.length ≤ 300
    · exact ⟨b.length, by omega, h, by rw [if_neg (by omega)]⟩
    · exact ⟨300, by omega, by omega, by rw [if_pos (by omega)]; rfl⟩
  have hn3 : (n : Int) ≤ (cap0 : Int) := by omega
  have HT := Lib.hid (show RdL RB 1 (fun k => k < w.heap.size) w a0 (b.take n) from ((HB4.out.pre n).bump RB_good).mono RB_good fun k _ h => h.2)
  have HTL := Lib.hid (show (b.take n).length = n by rw [List.length_take]; omega)
  go_wp2_with fail
  refine (n_any s 50 w2 HSRC.out (by unfold i64ok; omega)).mono ?_
  rintro e w3 ⟨r1, ⟨hr0, hr1, -⟩, rfl, hs3, hk3⟩
  have hr2 := hr1 (by omega)
  clear hr1
  have hlt3 := hs3.lt
  have hrd : Rd (· ≠ s) (w3.alloc (.cells ((([-1, 0, 4194304, 4194305] : List Int).map (Value.int .i64))).toArray 3)) (some ⟨w3.heap.size, 0, none⟩) (([-1, 0, 4194304, 4194305] : List Int).map (Value.int .i64)) :=
    (RdL.lit (e := 3) (S := (· ≠ s)) (Enc.flat1 (f := fun n : Int => Value.int .i64 n) (S := (· ≠ s)) (w := w3) [-1, 0, 4194304, 4194305]) (one_good fun _ => rfl) (by omega)).to_map
  have HRD := Lib.hid hrd
  have HS3 := Lib.hid hs3
  have K3 := Lib.hid hk3
  clear hrd hs3 hk3
  go_wp2_with fail
  refine (pick_any s _ (HS3.out.kept ((Kept.refl _ _).alloc _)) _ 4 [-1, 0, 4194304, 4194305] HRD.out (by simp) (by simp)).mono ?_
  rintro e w4 ⟨r2, hv, rfl, hs4, hk4⟩
  have hr4 : i64ok r2 := by
    simp at hv
    rcases hv with h | h | h | h <;> subst h <;> unfold i64ok <;> omega
  have K4 := Lib.hid ((K3.out.trans ((Kept.refl _ _).alloc _)).trans hk4)
  have hlt4 := hs4.lt
  have LIT := Lib.hid (show RdL RZ 1 (· ≠ s) (w4.alloc (.cells #[.int .i64 idx, .int .i64 r1, .int .i64 r2] 3)) (some ⟨w4.heap.size, 0, none⟩) [idx, r1, r2] from RdL.lit (e := 3) (S := (· ≠ s)) (Enc.flat1 (f := fun n : Int => Value.int .i64 n) (S := (· ≠ s)) (w := w4) [idx, r1, r2]) RZ_good (by omega))
  have HS4 := Lib.hid (hs4.kept ((Kept.refl All w4).alloc (.cells #[.int .i64 idx, .int .i64 r1, .int .i64 r2] 3)))
  have K4' := Lib.hid (K4.out.alloc (.cells #[.int .i64 idx, .int .i64 r1, .int .i64 r2] 3))
  have HOK := Lib.hid (show ∀ k (h : k < [idx, r1, r2].length), i64ok [idx, r1, r2][k] from fun k h => by
    match k, h with
    | 0, _ => exact WI.out
    | 1, _ => show i64ok r1; unfold i64ok; omega
    | 2, _ => exact hr4)
  have KW := Lib.hid (K2.out.outer HS.out K4'.out)
  clear hv hs4 hk4 hlt3 hlt4 hr0 hr2 hr4 HRD HS3 K3 K4
  go_wp2_with fail
  generalize hw5 : w4.alloc (.cells #[.int .i64 idx, .int .i64 r1, .int .i64 r2] 3) = w5 at *
  generalize hg4 : w4.heap.size = g4 at *
  clear hw5
  have hislen : [idx, r1, r2].length = 3 := rfl
  generalize [idx, r1, r2] = is at *
  have HLEN := Lib.hid hislen
  clear hislen hmn
  go_loopw [32] (fun x wr => ∃ k : Nat, k ≤ 3 ∧ x = .int .i64 k ∧ Hid (SrcIs wr s) ∧ Hid (Kept (· ≠ s) w5 wr)) (fun x _ => 3 - (intOf x).toNat)
  case atStart => exact ⟨0, by omega, rfl, HS4, Lib.hid (Kept.refl _ _)⟩
  case round =>
    obtain ⟨k, hk, rfl, HSR, HKR⟩ := hrel
    by_cases hlt : k < 3
    · have hkl : k < is.length := by rw [HLEN.out]; exact hlt
      obtain ⟨g, o, e, -, hcell⟩ := int_at (LIT.out.kept RZ_good HKR.out) (k := k) hkl
      have hiv := HOK.out k hkl
      injection e with e
      injection e with e1 e2
      subst e1
      subst e2
      generalize is[k] = v at hcell hiv
      rw [Nat.zero_add] at hcell
      have HIV := Lib.hid hiv
      clear hiv
      have p1 : (k : Int) < 3 := by omega
      go_wp2_with fail
      refine (records_any s 3 wr HSR.out (by omega) (by omega)).mono ?_
      rintro e w6 ⟨xs, A6, c6, rfl, h1, h2, h3, h4, h5, hs6, hk6⟩
      have HCNT := Lib.hid h3
      have HSM := Lib.hid h4
      have OWN6 := Lib.hid (h5.mono RBs_good (S' := (· ≠ s)) fun j _ hj => by have := HSR.out.lt; unfold Fr at hj; omega)
      have HS6 := Lib.hid hs6
      have K6 := Lib.hid hk6
      clear h1 h2 h3 h4 h5 hs6 hk6 hcell
      go_wp2_with fail
      refine (n_any s 3 w6 HS6.out (by unfold i64ok; omega)).mono ?_
      rintro e w7 ⟨r, ⟨hr0, hr1, -⟩, rfl, hs7, hk7⟩
      have hr2 := hr1 (by omega)
      clear hr1
      obtain ⟨m, rfl⟩ := Int.eq_ofNat_of_zero_le hr0
      have hm2 : m ≤ 2 := by omega
      have OWN7 := Lib.hid ((OWN6.out.kept RBs_good hk7 (fun j hj => by have := (OWN6.out.blk j hj).1; have := HSR.out.lt; omega) (fun j _ hj _ => hj)).mono RBs_good (S' := All) fun _ _ _ => trivial)
      have HS7 := Lib.hid hs7
      have K7 := Lib.hid (K6.out.trans hk7)
      clear hs7 hk7 hr0 hr2 OWN6 HS6
      obtain ⟨i0, hi, hz0, hz1, hz2⟩ := info_parts Try.sty22.info
      go_wp2_with (at_make; refine wp_stop ?_)
      unfold wpStop
      refine wpList_make_full w7 rfl _ _ 22 rfl w7.heap.size 5 i0 (.int .u8 0) 1 under22 hi hz0 hz1 _ _ _ _ (4095 + m) rfl rfl (by omega) (by omega) ?_ ?_ (Nat.le_refl _) ?_
      · rw [hz2]; omega
      · unfold maxLen; omega
      intro w8 own8 hg8
      have k78 : Kept All w7 w8 := (Kept.refl _ _).grown hg8 (by simp)
      have OWN8 := Lib.hid (OWN7.out.keptAll RBs_good k78)
      have HS8 := Lib.hid (HS7.out.kept k78)
      have K8 := Lib.hid (K7.out.trans (k78.mono fun _ _ _ => trivial))
      have own8' : Own RB 1 5 w7.heap.size All w8 (.slice (some ⟨w7.heap.size, 0, none⟩) (4095 + m) (4095 + m)) (List.replicate (4095 + m) 0) := ⟨_, by rw [List.length_replicate]; exact own8, made_enc _ _ _⟩
      have hkw8 : Kept All w w8 := K2.out.outer HS.out ((K4'.out.trans HKR.out).trans K8.out)
      have HRAW := Lib.hid (HT.out.kept RB_good (hkw8.mono fun _ _ _ => trivial))
      have hww : w.heap.size ≤ w7.heap.size := by have h1 := K2.out.size; have h2 := (K4'.out.trans HKR.out).size; have h3 := K7.out.size; omega
      obtain ⟨Am, cm, hvm, hm5, hm6, hm7⟩ := own8'.rd (S := fun j => w7.heap.size ≤ j) RB_good (fun j hj _ => hj)
      have cellR : RBs (fun j => j < w.heap.size ∨ w7.heap.size ≤ j) w8 [.slice a0 n cap0] (b.take n) := ⟨a0, cap0, by rw [HTL.out], by rw [HTL.out]; omega, HB3.out, HRAW.out.mono RB_good fun j _ h => .inl h⟩
      have cellM : RBs (fun j => j < w.heap.size ∨ w7.heap.size ≤ j) w8 [.slice (some ⟨w7.heap.size, 0, none⟩) (4095 + m) (4095 + m)] (List.replicate (4095 + m) 0) := ⟨Am, cm, by rw [hvm], hm5, hm6, hm7.mono RB_good fun j _ h => .inr h⟩
      have hw78 := k78.size
      have lit2 := RdL.lit (e := 22) (S := fun j => j < w.heap.size ∨ w7.heap.size ≤ j) ((Enc.single RBs_good cellR).append (Enc.single RBs_good cellM)) RBs_good (.inr hw78)
      have LIT2 := Lib.hid lit2
      have HRB := Lib.hid (show w.heap.size ≤ wr.heap.size by have h1 := K2.out.size; have h2 := (K4'.out.trans HKR.out).size; omega)
      have HR78 := Lib.hid hw78
      have HBLK := Lib.hid OWN7.out.blk
      have hcnt : xs.length ≤ 3 := by have := HCNT.out; omega
      have hw67 : wr.heap.size ≤ w8.heap.size := K8.out.size
      clear own8 hg8 own8' hvm hm5 hm6 hm7 cellR cellM lit2 hkw8 hz0 hz1 hz2 hi k78
      generalize hzz : List.replicate (4095 + m) (0 : UInt8) = zr at *
      have hzl : zr.length = 4095 + m := by rw [← hzz, List.length_replicate]
      have HZL := Lib.hid hzl
      clear hzz hzl
      go_wp2_with (at_builtin; refine wp_stop ?_)
      unfold wpStop
      refine wpList_app RBs_good Try.sty28 (OWN8.out.alloc RBs_good _) LIT2.out (.inl fun j hj h => ⟨trivial, fun he => ?_⟩) rfl rfl rfl (m := xs.length + 2) rfl rfl rfl ?_ ?_ ?_
      · have h1 := HBLK.out j he.symm
        have h2 := HRB.out
        rcases h with h | h <;> omega
      · omega
      · simp; omega
      intro A9 c9 w9 own9 hc9 hm9 hk9 hb9
      have kw9 : Kept (· ≠ s) wr w9 := (K8.out.alloc _).through hk9 (OWN8.out.alloc RBs_good _) (Nat.le_refl _)
      have hs9 : SrcIs w9 s := (HS8.out.kept ((Kept.refl All w8).alloc _)).keptS hk9 (fun q hq he => by have h1 := (HBLK.out q he.symm).1; have h2 := HSR.out.lt; omega)
      obtain ⟨hylen, hla⟩ := mk_list (w := w9) (most := 5) (big := 5000) own9 (by simp; omega) (fun r hr => by
        rcases List.mem_append.1 hr with h | h
        · have := HSM.out r h; omega
        · simp at h
          rcases h with h | h
          · rw [h, HTL.out]; omega
          · rw [h, HZL.out]; omega) (Kept.refl _ _)
      have HL := Lib.hid hla
      have HS9 := Lib.hid hs9
      have K9 := Lib.hid kw9
      rw [hylen]
      clear own9 hc9 hm9 hk9 hb9 kw9 hs9 hylen hla LIT2 OWN7 OWN8 HS7 HS8 HBLK
      generalize hyy : xs ++ ([b.take n] ++ [zr]) = ys at *
      have hyle := HL.out.cnt
      clear hyy
      go_wp2_with fail
      go_loopw [47] (fun x wi => ∃ q : Nat, q ≤ ys.length ∧ x = .int .i64 q ∧ Hid (Kept All w9 wi)) (fun x _ => ys.length - (intOf x).toNat)
      case atStart => exact ⟨0, by omega, rfl, Lib.hid (Kept.refl _ _)⟩
      case round =>
        obtain ⟨q, hq, rfl, HKI⟩ := hrel
        by_cases hql : q < ys.length
        · obtain ⟨g, o, A2, c2, hA, hcell, -, -, hr⟩ := list_at (HL.out.rd.kept RBs_good HKI.out) hql
          have hrb := HL.out.big _ (List.getElem_mem hql)
          subst hA
          generalize ys[q] = r at *
          have HR := Lib.hid hr
          have p2 : (q : Int) < (ys.length : Int) := by omega
          clear hr
          by_cases h300 : r.length ≤ 300
          · have d1 : decide ((r.length : Int) ≤ 300) = true := by rw [decide_eq_true_eq]; omega
            have d2 : decide ((300 : Int) < (r.length : Int)) = false := by rw [decide_eq_false_iff_not]; omega
            have d3 : (((chk v r).toNat : Int) != ((chk v r).toNat : Int)) = false := by rw [bne_eq_false_iff_eq]
            go_wp2_with fail
            refine (check14_n v A2 _ c2 r wr HR.out (by omega) rfl).mono ?_
            rintro e wa ⟨rfl, hka⟩
            have KA := Lib.hid hka
            clear hka
            go_wp2_with fail
            refine (check15_n v A2 _ c2 r wa (HR.out.kept RB_good KA.out) (by omega) rfl).mono ?_
            rintro e wb ⟨rfl, hkb⟩
            have KB := Lib.hid (KA.out.trans hkb)
            clear hkb
            go_wp2_with fail
            refine (frame16_n v A2 _ c2 r wb (HR.out.kept RB_good KB.out) (by omega) HIV.out rfl).mono ?_
            rintro e wc ⟨A3, c3, rfl, -, -, hrc, hkc⟩
            have HRC := Lib.hid (hrc.mono RB_good (S' := All) fun _ _ _ => trivial)
            have KC := Lib.hid (KB.out.trans hkc)
            clear hrc hkc
            go_wp2_with fail
            refine (frame17_n v A2 _ c2 r wc (HR.out.kept RB_good KC.out) (by omega) HIV.out rfl).mono ?_
            rintro e wd ⟨A4, c4, rfl, -, -, hrd, hkd⟩
            have hcv1 := conv22 (HRC.out.kept RB_good hkd) rfl c3
            have hcv2 := conv22 hrd rfl c4
            have KD := Lib.hid (HKI.out.trans (KC.out.trans hkd))
            clear hrd hkd
            generalize (frameR v r).1 = fr at *
            generalize (frameR v r).2 = fe at *
            have hbt := bs_toList
            have te : (fr != fr) = false := by rw [bne_eq_false_iff_eq]
            have tf : (fe != fe) = false := by rw [bne_eq_false_iff_eq]
            go_wp2_with fail
            exact ⟨⟨q + 1, by omega, by go_num, KD⟩, by simp [intOf]; omega⟩
          · have d1 : decide ((r.length : Int) ≤ 300) = false := by rw [decide_eq_false_iff_not]; omega
            have d2 : decide ((300 : Int) < (r.length : Int)) = true := by rw [decide_eq_true_eq]; omega
            go_wp2_with fail
            refine (frame16_n v A2 _ c2 r wr HR.out (by omega) HIV.out rfl).mono ?_
            by_cases hv0 : v < 0
            · have d3 : decide (v < 0) = true := by rw [decide_eq_true_eq]; exact hv0
              have hfr : frameR v r = ([], 1) := by rw [frameR, if_pos (.inl hv0)]
              rw [hfr]
              rintro e wc ⟨A3, c3, rfl, -, -, -, hkc⟩
              have KC := Lib.hid (HKI.out.trans hkc)
              clear hkc hfr hv0
              go_wp2_with fail
              exact ⟨⟨q + 1, by omega, by go_num, KC⟩, by simp [intOf]; omega⟩
            have d3 : decide (v < 0) = false := by rw [decide_eq_false_iff_not]; exact hv0
            by_cases hv1 : 4194304 < v
            · have d4 : decide (4194304 < v) = true := by rw [decide_eq_true_eq]; exact hv1
              have hfr : frameR v r = ([], 1) := by rw [frameR, if_pos (.inr hv1)]
              rw [hfr]
              rintro e wc ⟨A3, c3, rfl, -, -, -, hkc⟩
              have KC := Lib.hid (HKI.out.trans hkc)
              clear hkc hfr hv0 hv1
              go_wp2_with fail
              exact ⟨⟨q + 1, by omega, by go_num, KC⟩, by simp [intOf]; omega⟩
            have d4 : decide (4194304 < v) = false := by rw [decide_eq_false_iff_not]; exact hv1
            by_cases h4 : 4096 < r.length
            · have d5 : decide ((4096 : Int) < (r.length : Int)) = true := by rw [decide_eq_true_eq]; omega
              have hfr : frameR v r = ([], 2) := by rw [frameR, if_neg (by omega), if_pos h4]
              rw [hfr]
              rintro e wc ⟨A3, c3, rfl, -, -, -, hkc⟩
              have KC := Lib.hid (HKI.out.trans hkc)
              clear hkc hfr hv0 hv1
              go_wp2_with fail
              exact ⟨⟨q + 1, by omega, by go_num, KC⟩, by simp [intOf]; omega⟩
            have d5 : decide ((4096 : Int) < (r.length : Int)) = false := by rw [decide_eq_false_iff_not]; omega
            have hfr : frameR v r = (frameL v r, 0) := by rw [frameR, if_neg (by omega), if_neg h4]
            rw [hfr]
            rintro e wc ⟨A3, c3, rfl, -, -, -, hkc⟩
            have KC := Lib.hid (HKI.out.trans hkc)
            simp only [frameL_len]
            have d6 : ((r.length : Int) + 8 != (r.length : Int) + 8) = false := by rw [bne_eq_false_iff_eq]
            clear hkc hfr hv0 hv1
            go_wp2_with fail
            exact ⟨⟨q + 1, by omega, by go_num, KC⟩, by simp [intOf]; omega⟩
        · obtain rfl : q = ys.length := by omega
          have HSN := Lib.hid (HS9.out.kept HKI.out)
          have KN := Lib.hid ((HKR.out.trans K9.out).trans (HKI.out.mono fun _ _ _ => trivial))
          go_wp2_with fail
          exact ⟨⟨k + 1, by omega, by go_num, HSN, KN⟩, by simp [intOf]; omega⟩
    · obtain rfl : k = 3 := by omega
      go_wp2_with fail
      refine (awake_any wr).mono ?_
      rintro e wz ⟨rfl, hkz⟩
      have KZ := Lib.hid ((K2.out.outer HS.out (K4'.out.trans HKR.out)).trans hkz)
      clear hkz
      go_wp2_with fail
      go_ret
      exact ⟨rfl, KZ.out⟩
end Go.Proofs.Ytnedeajebhbjbaa
