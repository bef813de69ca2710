import Derived.Test.YtnedeajebhbjbaaBur
import Derived.ChangeKeysEq
namespace Go.Proofs.Ytnedeajebhbjbaa
open Go.RowKit
theorem under45 : Try.prog.underlying 45 = some (.array 4 5) := by kernel_rfl
theorem cells5 : Try.prog.cellsOf 5 = 1 := by kernel_rfl
theorem eq45 (a0 a1 a2 a3 : Int) (w : World) : Sem.run Try.prog (Op.equalIn 10000 45 (.agg #[.int .u8 a0, .int .u8 a1, .int .u8 a2, .int .u8 a3]) (.agg #[.int .u8 0, .int .u8 0, .int .u8 0, .int .u8 0])) w = .ok (a0 == 0 && (a1 == 0 && (a2 == 0 && a3 == 0))) w := by
  obtain ⟨i, hi, -⟩ := info_parts Try.sty22.info
  rw [show (10000 : Nat) = 9999 + 1 from rfl, run_equalIn_array w 9999 _ _ under45 hi, cells5]
  have hr : List.range 4 = [0, 1, 2, 3] := by decide
  have he : ∀ a b : Int, Sem.run Try.prog (Op.equalIn 9999 5 (.int .u8 a) (.int .u8 b)) w = .ok (a == b) w := fun a b => run_equalIn_int w 9998 5 .u8 .u8 a b under5
  rw [hr]
  simp [Op.eqItems, part, isAgg, run_underlying under5, he]
  by_cases h0 : a0 = 0 <;> by_cases h1 : a1 = 0 <;> by_cases h2 : a2 = 0 <;> by_cases h3 : a3 = 0 <;> simp [h0, h1, h2, h3, he]

set_option maxRecDepth 100000 in
set_option maxHeartbeats 2000000 in
theorem walk5 (a0 : Option Addr) (len0 cap0 : Nat) (z0 : List Int) (at' : Int) (b0 b1 b2 b3 : UInt8) (w : World) (w0 : IsRow .i64 w a0 len0 cap0 z0) (w1 : i64ok at') :
    Calls Try.prog 5 #[.slice a0 len0 cap0, .int .i64 at', .agg #[.int .u8 b0.toNat, .int .u8 b1.toNat, .int .u8 b2.toNat, .int .u8 b3.toNat]] w fun e w' => e = .returned (.bool true) ∧ Kept All w w' := by
  obtain ⟨l, hl1, hl2, hl3, hl4, hl5⟩ := w0.ints
  subst hl1
  have W1 := Lib.hid w1
  clear w0 w1
  go_enter Try.func5, Try.ntmps5
  go_wp2_with fail
  have hbk : Hid (RdL RB 1 All (w.alloc (.cells #[.int .u8 b0.toNat, .int .u8 b1.toNat, .int .u8 b2.toNat, .int .u8 b3.toNat] 45)) (some ⟨w.heap.size, 0, none⟩) [b0, b1, b2, b3]) :=
    Lib.hid (RdL.lit (e := 45) (Enc.flat1 (f := u8v) (S := All) (w := w) [b0, b1, b2, b3]) RB_good trivial)
  have k1 := Lib.hid ((Kept.refl All w).alloc (.cells #[.int .u8 b0.toNat, .int .u8 b1.toNat, .int .u8 b2.toNat, .int .u8 b3.toNat] 45))
  have hg1 : w.heap.size < (w.alloc (.cells #[.int .u8 b0.toNat, .int .u8 b1.toNat, .int .u8 b2.toNat, .int .u8 b3.toNat] 45)).heap.size := by simp
  have HG1 := Lib.hid hg1
  clear hg1
  generalize (w.alloc (.cells #[.int .u8 b0.toNat, .int .u8 b1.toNat, .int .u8 b2.toNat, .int .u8 b3.toNat] 45)) = w1 at *
  have hg0 := Lib.hid (show w.heap.size ≤ w.heap.size from Nat.le_refl _)
  generalize hgg : w.heap.size = g0 at hbk HG1 hg0 ⊢
  have HGG := Lib.hid hgg
  clear hg0 hgg
  refine (new_n w1 _ _ _ l (hl4.kept k1.out) rfl hl2 hl3 hl5).mono ?_
  clear hl2 hl3 hl4 hl5
  rintro e w2 ⟨s, rfl, hs, hsrc, hk2⟩
  have HS := Lib.hid (show w1.heap.size ≤ s by omega)
  have HSRC := Lib.hid hsrc
  have K2 := Lib.hid hk2
  clear hs hsrc hk2
  go_wp2_with fail
  refine (records_any s 4 w2 HSRC.out (by omega) (by omega)).mono ?_
  rintro e w3 ⟨xs, A3, c3, rfl, h1, h2, h3, h4, h5, h6, h7⟩
  have K3 := Lib.hid (K2.out.outer HS.out h7)
  have K23 := Lib.hid h7
  have OWN := Lib.hid (h5.mono RBs_good (S' := All) fun _ _ _ => trivial)
  have HCNT := Lib.hid h3
  have HSM := Lib.hid h4
  clear h1 h2 h3 h4 h5 h6 h7
  have hcv := fun (w : World) (C : Array Value) (n c : Nat) => Lib.run_convert_bytes_const (P := Try.prog) w 22 5 C n c under22 under5
  go_wp2_with (at_builtin; refine wp_stop ?_)
  unfold wpStop
  have lit1 : RdL RB 1 (· = w3.heap.size) (w3.alloc (.cells #[.int .u8 48, .int .u8 49, .int .u8 50, .int .u8 51, .int .u8 52, .int .u8 53, .int .u8 54, .int .u8 55, .int .u8 56, .int .u8 57, .int .u8 97, .int .u8 98, .int .u8 99, .int .u8 100, .int .u8 101, .int .u8 102] 5 (16, 17))) (some ⟨w3.heap.size, 0, none⟩) digL :=
    RdL.litM (S := (· = w3.heap.size)) (e := 5) (Enc.flat1 (f := u8v) (S := (· = w3.heap.size)) (w := w3) digL) RB_good rfl (16, 17)
  have cell1 : RBs (fun k => k = w3.heap.size ∨ k = w3.heap.size + 1) _ [.slice (some ⟨w3.heap.size, 0, none⟩) 16 16] digL := ⟨_, 16, rfl, by decide, by unfold maxLen; omega, lit1.mono RB_good fun k _ h => .inl h⟩
  have lit2 := RdL.lit (e := 22) (S := fun k => k = w3.heap.size ∨ k = w3.heap.size + 1) (Enc.single RBs_good cell1) RBs_good (.inr (by simp))
  rw [World.size_alloc] at lit2
  have hbw : w2.heap.size ≤ w3.heap.size := (K23.out).size
  refine wpList_app RBs_good Try.sty28 ((OWN.out.alloc RBs_good _).alloc RBs_good _) lit2 (.inl fun k hk h => ⟨trivial, fun he => ?_⟩) rfl rfl rfl (m := xs.length + 1) rfl rfl rfl ?_ ?_ ?_
  · have h1 := OWN.out.blk k he.symm
    rcases h with h | h <;> omega
  · have := HCNT.out; omega
  · simp; omega
  intro A4 c4 w4 own4 hc4 hm4 hk4 hb4
  have kw := ((K3.out.alloc _).alloc _).through hk4 ((OWN.out.alloc RBs_good _).alloc RBs_good _) K2.out.size
  obtain ⟨hylen, hla⟩ := mk_list (w := w1) (most := 5) (big := 16) own4 (by have := HCNT.out; simp; omega) (app_small HSM.out (by omega) (by decide)) kw
  have HL := Lib.hid hla
  have hcnt : xs.length ≤ 4 := by have := HCNT.out; omega
  have hp : posL xs xs.length ≤ 64 := by have h1 := posL_le xs 8 HSM.out; have h2 := Nat.mul_le_mul_right 16 hcnt; omega
  have hsm : ∀ r ∈ xs, r.length ≤ 4096 := fun r hr => by have := HSM.out r hr; omega
  have hrecs := fun k (hk : k ≤ 12) (hb : ¬(b0 = 0 ∧ b1 = 0 ∧ b2 = 0 ∧ b3 = 0)) => recs_burst xs k b0 b1 b2 b3 hsm (by omega) hk hb
  obtain ⟨hps1, hps2⟩ := posL_snoc xs digL
  have hdl : digL.length = 16 := rfl
  have hy1 : (xs ++ [digL]).take xs.length = xs := by rw [List.take_append_of_le_length (Nat.le_refl _), List.take_length]
  have HREC := Lib.hid hrecs
  have HPS1 := Lib.hid hps1
  have HPS2 := Lib.hid hps2
  have HY1 := Lib.hid hy1
  have HYL := Lib.hid hylen
  clear own4 hc4 hm4 hk4 hb4 kw hla lit1 lit2 cell1 hbw hcv hrecs hps1 hps2 hy1 hylen hsm OWN
  generalize hyy : xs ++ [digL] = ys at *
  have hyle : ys.length ≤ 5 := by have := HYL.out; omega
  have HYY := Lib.hid hyy
  clear hyy
  have hj := jrn_some ys (fun q hq => by have := HL.out.big q hq; omega) (by have := HPS2.out; omega)
  have hjl : (joinF 0 ys).length = posL xs xs.length + 24 := by rw [joinF_len, HPS2.out]; rfl
  have HJ := Lib.hid hj
  have HJL := Lib.hid hjl
  clear hj hjl
  go_wp2_with fail
  refine (written_any A4 _ c4 ys w4 HL.out.rd HYL.out (by omega) (fun q hq => by have := HL.out.big q hq; omega)).mono ?_
  rw [HJ.out]
  rintro e w5 ⟨A5, c5, rfl, h51, h52, h53, h54⟩
  have hrec5 := HREC.out
  have hjl2 : (joinF 0 ys).length ≤ 88 := by have := HJL.out; omega
  have hj4 := HJL.out
  generalize hjj : joinF 0 ys = j at *
  have HC5 := Lib.hid h51
  have HM5 := Lib.hid h52
  have HR5 := Lib.hid (h53.mono RB_good (S' := All) fun _ _ _ => trivial)
  have HX5 := Lib.hid (HL.out.rd.kept RBs_good h54)
  have K5 := Lib.hid (HL.out.kept.trans h54)
  have HREC5 := Lib.hid hrec5
  have HJ4 := Lib.hid hj4
  clear h51 h52 h53 h54 hjj HJ HREC hrec5 hj4 HJL
  have hby := hbk.out.kept RB_good K5.out
  have y0 : w5.cell? ⟨g0, 0, none⟩ = some (.int .u8 (b0.toNat : Int)) := by
    obtain ⟨g, o, e, -, hc⟩ := byte_at hby (k := 0) (by simp)
    injection e with e; injection e with e1 e2; subst e1; subst e2; exact hc
  have y1 : w5.cell? ⟨g0, 1, none⟩ = some (.int .u8 (b1.toNat : Int)) := by
    obtain ⟨g, o, e, -, hc⟩ := byte_at hby (k := 1) (by simp)
    injection e with e; injection e with e1 e2; subst e1; subst e2; exact hc
  have y2 : w5.cell? ⟨g0, 2, none⟩ = some (.int .u8 (b2.toNat : Int)) := by
    obtain ⟨g, o, e, -, hc⟩ := byte_at hby (k := 2) (by simp)
    injection e with e; injection e with e1 e2; subst e1; subst e2; exact hc
  have y3 : w5.cell? ⟨g0, 3, none⟩ = some (.int .u8 (b3.toNat : Int)) := by
    obtain ⟨g, o, e, -, hc⟩ := byte_at hby (k := 3) (by simp)
    injection e with e; injection e with e1 e2; subst e1; subst e2; exact hc
  clear hby
  by_cases hz : b0 = 0 ∧ b1 = 0 ∧ b2 = 0 ∧ b3 = 0
  · have hE : Sem.run Try.prog (Op.equalIn 10000 45 (.agg #[.int .u8 b0.toNat, .int .u8 b1.toNat, .int .u8 b2.toNat, .int .u8 b3.toNat]) (.agg #[.int .u8 0, .int .u8 0, .int .u8 0, .int .u8 0])) w5 = .ok true w5 := by
      rw [eq45]
      obtain ⟨h0, h1, h2, h3⟩ := hz
      rw [h0, h1, h2, h3]
      rfl
    clear hz
    go_wp2_with fail
    refine (awake_any w5).mono ?_
    rintro e w6 ⟨rfl, hk6⟩
    have K6 := Lib.hid (k1.out.trans (K5.out.trans hk6))
    clear hk6
    go_wp2_with fail
    go_ret
    exact ⟨rfl, K6.out⟩
  have hE : Sem.run Try.prog (Op.equalIn 10000 45 (.agg #[.int .u8 b0.toNat, .int .u8 b1.toNat, .int .u8 b2.toNat, .int .u8 b3.toNat]) (.agg #[.int .u8 0, .int .u8 0, .int .u8 0, .int .u8 0])) w5 = .ok false w5 := by
    rw [eq45]
    congr 1
    rw [Bool.eq_false_iff]
    intro h
    simp only [Bool.and_eq_true, beq_iff_eq] at h
    obtain ⟨h0, h1, h2, h3⟩ := h
    exact hz ⟨UInt8.toNat_inj.1 (by simpa using h0), UInt8.toNat_inj.1 (by simpa using h1), UInt8.toNat_inj.1 (by simpa using h2), UInt8.toNat_inj.1 (by simpa using h3)⟩
  have HZ := Lib.hid hz
  clear hz
  go_wp2_with fail
  refine (frames_any A4 _ c4 ys w5 HX5.out HYL.out (by omega) (by have h1 := HPS2.out; have h2 : digL.length = 16 := rfl; omega)).mono ?_
  rintro e w6 ⟨A6, c6, rfl, h61, h62, h63, hk6⟩
  rw [startsL_len] at h61 ⊢
  have K6 := Lib.hid (K5.out.trans hk6)
  have HR6 := Lib.hid (h63.mono RI_good (S' := All) fun _ _ _ => trivial)
  have HX6 := Lib.hid (HX5.out.kept RBs_good hk6)
  have HJ6 := Lib.hid (HR5.out.kept RB_good hk6)
  obtain ⟨g6, o6, hA6, -, hc6⟩ := nat_at HR6.out (k := xs.length) (by rw [startsL_len]; have := HYL.out; omega)
  rw [startsL_get, HPS1.out] at hc6
  subst hA6
  have hj6 : ((posL xs xs.length : Int) + 24 != (j.length : Int)) = false := by rw [bne_eq_false_iff_eq, HJ4.out]; rfl
  have hl6 : (xs.length : Int) < ((ys.length + 1 : Nat) : Int) := by have := HYL.out; omega
  clear h61 h62 h63 hk6 HX5 HR5 hE y0 y1 y2 y3
  go_wp2_with fail
  refine (mod_any at' 13 w6 W1.out (by unfold i64ok; omega)).mono ?_
  obtain ⟨g1, g2, -⟩ := gmod_bd at' 13
  have g3 := g2 (by omega)
  clear g2
  obtain ⟨m, hm⟩ := Int.eq_ofNat_of_zero_le g1
  rw [hm] at g3 ⊢
  clear hm g1
  rintro e w6' ⟨rfl, rfl⟩
  have hm12 : m ≤ 12 := by omega
  clear g3
  have hjl3 : posL xs xs.length + 24 ≤ j.length := by have h1 := HJ4.out; rw [h1]; exact Nat.le_refl _
  have own0 := Lib.hid (Own.lit (S := All) (e := 5) w6 [] ([] : List UInt8) (R := RB) (sz := 1) Enc.nil RB_good (by unfold maxLen; simp))
  go_wp2_with (at_builtin; refine wp_stop ?_)
  unfold wpStop
  refine wpList_app RB_good Try.sty22 own0.out (HJ6.out.kept RB_good ((Kept.refl All w6).alloc (.cells #[] 5))) (.inr fun _ _ _ _ h => h) rfl rfl rfl (m := j.length) rfl rfl ?_ ?_ ?_ ?_
  · simp
  · omega
  · simp
  intro A7 c7 w7 own7 hc7 hm7 hk7 hb7
  rw [List.nil_append] at own7
  have k67 : Kept All w6 w7 := ((Kept.refl All w6).alloc (.cells #[] 5)).through hk7 own0.out (Nat.le_refl _)
  obtain ⟨g7, rfl, -⟩ := own7.addr (by omega)
  have hg7 := (own7.blk g7 rfl).1
  have OWN7 := Lib.hid own7
  have K7 := Lib.hid k67
  have HG7 := Lib.hid hg7
  clear own7 hc7 hm7 hk7 hb7 k67 hg7 own0
  have hkp : (posL xs xs.length : Int) + 4 + (m : Int) = ((posL xs xs.length + 4 + m : Nat) : Int) := by omega
  have hkl : posL xs xs.length + 4 + m + 4 ≤ j.length := by omega
  have hkb : posL xs xs.length + 4 + m ≤ 100 := by omega
  have HKP := Lib.hid hkp
  have H12 := Lib.hid hm12
  clear hm12 hkp
  go_wp2_with fail
  rw [HKP.out]
  have hrec7 := HREC5.out m H12.out HZ.out
  have HREC7 := Lib.hid hrec7
  clear hrec7 HKP HREC5
  generalize hkk : posL xs xs.length + 4 + m = kk at *
  have hwg : w.heap.size ≤ w6.heap.size := Nat.le_trans k1.out.size K6.out.size
  have HWG := Lib.hid hwg
  have HBY := Lib.hid ((hbk.out.kept RB_good K6.out))
  have hg0 : g0 < w6.heap.size := Nat.lt_of_lt_of_le HG1.out K6.out.size
  clear hwg hkk
  go_loopw [58] (fun x wr => ∃ i : Nat, i ≤ 4 ∧ x = .int .i64 i ∧ Hid (Own RB 1 5 w6.heap.size All wr (.slice (some ⟨g7, 0, none⟩) j.length c7) (hitL j kk ([b0, b1, b2, b3].take i))) ∧ Hid (Kept All w6 wr)) (fun x _ => 4 - (intOf x).toNat)
  case atStart => exact ⟨0, by omega, rfl, OWN7, K7⟩
  case round =>
    obtain ⟨i, hi, rfl, HO, HK⟩ := hrel
    by_cases hlt : i < 4
    · obtain ⟨g, o, e, -, hby⟩ := byte_at (HBY.out.kept RB_good HK.out) (k := i) hlt
      injection e with e
      injection e with e1 e2
      subst e1
      subst e2
      rw [Nat.zero_add] at hby
      have hll := hitL_len ([b0, b1, b2, b3].take i) j kk
      obtain ⟨hcell, hfro⟩ := HO.out.cell1 (f := u8v) (k := kk + i) (by omega)
      have htk : [b0, b1, b2, b3].take (i + 1) = [b0, b1, b2, b3].take i ++ [[b0, b1, b2, b3][i]] := List.take_succ_eq_append_getElem hlt
      have htl : ([b0, b1, b2, b3].take i).length = i := by rw [List.length_take]; simp; omega
      have hset := (HO.out.drew RB_good).set1 (f := u8v) (kk + i) ((hitL j kk ([b0, b1, b2, b3].take i))[kk + i] ^^^ [b0, b1, b2, b3][i])
      have hgd : (hitL j kk ([b0, b1, b2, b3].take i)).getD (kk + i) 0 = (hitL j kk ([b0, b1, b2, b3].take i))[kk + i] := by
        rw [List.getD, List.getElem?_eq_getElem]; rfl
      have hnx : (hitL j kk ([b0, b1, b2, b3].take i)).set (kk + i) ((hitL j kk ([b0, b1, b2, b3].take i))[kk + i] ^^^ [b0, b1, b2, b3][i]) = hitL j kk ([b0, b1, b2, b3].take (i + 1)) := by
        rw [htk, hitL_snoc, htl, hit, hgd]
      rw [hnx] at hset
      have hcell' : wr.cell? ⟨g7, kk + i, none⟩ = some (.int .u8 ((hitL j kk ([b0, b1, b2, b3].take i))[kk + i].toNat : Int)) := hcell
      have hxo := w_xor8 (hitL j kk ([b0, b1, b2, b3].take i))[kk + i] [b0, b1, b2, b3][i]
      generalize (hitL j kk ([b0, b1, b2, b3].take i))[kk + i] = y at *
      generalize [b0, b1, b2, b3][i] = bi at *
      have hyl := u8_lt y
      have hbl := u8_lt bi
      generalize y ^^^ bi = z at *
      have HSET := Lib.hid (show Own RB 1 5 w6.heap.size All (wr.drew.setCell ⟨g7, kk + i, none⟩ (.int .u8 (z.toNat : Int))) (.slice (some ⟨g7, 0, none⟩) j.length c7) _ from hset)
      have HKN := Lib.hid (HK.out.drew.setCell (p := ⟨g7, kk + i, none⟩) (.inr HG7.out) (u8v z))
      clear hll hset hnx hgd htk htl hcell
      have p1 : (i : Int) < 4 := by omega
      have p2 : (kk : Int) + (i : Int) < (j.length : Int) := by omega
      go_wp2_with fail
      go_region
      all_goals
        go_wp2_with fail
        exact ⟨⟨i + 1, by omega, by go_num, HSET, HKN⟩, by simp [intOf]; omega⟩
    · obtain rfl : i = 4 := by omega
      have ht4 : [b0, b1, b2, b3].take 4 = [b0, b1, b2, b3] := rfl
      rw [ht4] at HO
      obtain ⟨A', c', hv7, h71, h72, h73⟩ := HO.out.rd (S := All) RB_good (fun _ _ _ => trivial)
      rw [hitL_len] at hv7 h71
      injection hv7 with e1 _ e2
      subst e1; subst e2
      have HR7 := Lib.hid h73
      have HC7 := Lib.hid h71
      have HM7 := Lib.hid h72
      have HLL := Lib.hid (hitL_len [b0, b1, b2, b3] j kk)
      clear h71 h72 h73 ht4
      go_wp2_with fail
      refine (records21_n _ _ c7 (hitL j kk [b0, b1, b2, b3]) _ HR7.out (by rw [HLL.out]; omega) HLL.out.symm HC7.out HM7.out).mono ?_
      rw [HREC7.out]
      rintro e w8 ⟨A8, c8, rfl, h81, h82, h83, hk8⟩
      have K8 := Lib.hid (HK.out.trans hk8)
      have HR8 := Lib.hid (h83.mono RBs_good (S' := All) fun _ _ _ => trivial)
      have hx8 := (HX6.out.kept RBs_good (HK.out.trans hk8)).pre xs.length
      rw [HY1.out] at hx8
      have HX8 := Lib.hid hx8
      have hyc : xs.length ≤ c4 := by have h1 := HL.out.le; have h2 := HYL.out; omega
      have hyc2 : (xs.length : Int) ≤ (c4 : Int) := by omega
      have hxl : (xs.length : Int) + 1 ≤ 5 := by omega
      clear h81 h82 h83 hk8 hx8
      go_wp2_with fail
      refine (same_any A8 A4 xs.length xs.length c8 c4 xs xs w8 HR8.out HX8.out rfl rfl (by omega) (by omega)).mono ?_
      rintro e w9 ⟨rfl, hk9⟩
      have hd2 : decide (xs = xs) = true := decide_eq_true rfl
      rw [hd2]
      have K9 := Lib.hid (K8.out.trans hk9)
      clear hk9 hd2
      go_wp2_with fail
      refine (awake_any w9).mono ?_
      rintro e w10 ⟨rfl, hk10⟩
      have K10 := Lib.hid (k1.out.trans (K6.out.trans (K9.out.trans hk10)))
      clear hk10
      go_wp2_with fail
      go_ret
      exact ⟨rfl, K10.out⟩
end Go.Proofs.Ytnedeajebhbjbaa
