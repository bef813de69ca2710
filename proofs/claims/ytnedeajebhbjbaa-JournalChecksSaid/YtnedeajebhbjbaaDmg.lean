import Derived.Test.YtnedeajebhbjbaaBase
namespace Go.Proofs.Ytnedeajebhbjbaa
open Go.RowKit

theorem joinF_split (l : List (List UInt8)) (i : Nat) (h : i < l.length) : joinF 0 l = joinF 0 (l.take i) ++ (frameL i l[i] ++ joinF (i + 1) (l.drop (i + 1))) := by
  have e : l = l.take i ++ l[i] :: l.drop (i + 1) := by simp
  conv => lhs; rw [e]
  rw [joinF_append]
  have : (l.take i).length = i := by rw [List.length_take]; omega
  rw [this, Nat.zero_add]
  rfl
theorem posL_take (l : List (List UInt8)) (i : Nat) (h : i ≤ l.length) : posL (l.take i) (l.take i).length = posL l i := by
  unfold posL
  rw [List.take_length]
theorem recs_hit (l : List (List UInt8)) (i k : Nat) (x : UInt8) (hr : ∀ r ∈ l, r.length ≤ 4096) (hp : posL l l.length ≤ 4194304) (hi : i < l.length) (h1 : posL l i ≤ k) (h2 : k < posL l (i + 1)) (hx : x ≠ 0) :
    recs (hit (joinF 0 l) k x) = (l.take i, posL l i) := by
  have hlen : (joinF 0 (l.take i)).length = posL l i := by rw [joinF_len, posL_take l i (by omega)]
  have hs := posL_succ l i hi
  rw [joinF_split l i hi, hit_append_right _ _ _ _ (by omega), hlen]
  have := recs_join (l.take i) (hit (frameL i l[i] ++ joinF (i + 1) (l.drop (i + 1))) (k - posL l i) x) (fun r h => hr r (List.mem_of_mem_take h)) (by rw [hlen]; have := posL_mono l (i := i) (j := l.length) (by omega); omega) (by
    have e : (l.take i).length = i := by rw [List.length_take]; omega
    rw [e]
    exact firstL_hit i _ _ _ _ (hr _ (List.getElem_mem hi)) (by omega) hx)
  rw [this, hlen]
theorem Own.addr {α : Type} {R : Rel α} {sz base : Nat} {e : TypeId} {S : Nat → Prop} {w : World} {A : Option Addr} {n c : Nat} {ys : List α} (h : Own R sz e base S w (.slice A n c) ys) (hpos : 0 < ys.length) : ∃ g, A = some ⟨g, 0, none⟩ ∧ n = ys.length := by
  obtain ⟨news, ho, _⟩ := h
  rcases ho.2 with ⟨h, h0⟩ | ⟨g, cap, cur, h, _⟩
  · omega
  · injection h with h1 h2 _
    exact ⟨g, h1, h2⟩

theorem pos_idx (l : List (List UInt8)) (k : Nat) (h : k < posL l l.length) : ∃ i, i < l.length ∧ posL l i ≤ k ∧ k < posL l (i + 1) := by
  have key : ∀ n, n ≤ l.length → k < posL l n → ∃ i, i < n ∧ posL l i ≤ k ∧ k < posL l (i + 1) := by
    intro n
    induction n with
    | zero => intro _ h; rw [posL_zero] at h; omega
    | succ n ih =>
      intro hn h
      by_cases h1 : posL l n ≤ k
      · exact ⟨n, by omega, h1, h⟩
      · obtain ⟨i, a, b, c⟩ := ih (by omega) (by omega)
        exact ⟨i, by omega, b, c⟩
  exact key _ (Nat.le_refl _) h
set_option maxRecDepth 100000 in
set_option maxHeartbeats 2000000 in
theorem walk4 (a0 : Option Addr) (len0 cap0 : Nat) (z0 : List Int) (at' : Int) (by' : UInt8) (w : World) (w0 : IsRow .i64 w a0 len0 cap0 z0) (w1 : i64ok at') :
    Calls Try.prog 4 #[.slice a0 len0 cap0, .int .i64 at', .int .u8 (by'.toNat : Int)] w fun e w' => e = .returned (.bool true) ∧ Kept All w w' := by
  obtain ⟨l, hl1, hl2, hl3, hl4, hl5⟩ := w0.ints
  subst hl1
  have W1 := Lib.hid w1
  clear w0 w1
  have hbl := u8_lt by'
  go_enter Try.func4, Try.ntmps4
  go_wp2_with fail
  refine (new_n w _ _ _ l hl4 rfl hl2 hl3 hl5).mono ?_
  clear hl2 hl3 hl4 hl5
  rintro e w2 ⟨s, rfl, hs, hsrc, hk2⟩
  have HS := Lib.hid (show w.heap.size ≤ s by omega)
  have HSRC := Lib.hid hsrc
  have K2 := Lib.hid hk2
  clear hs hsrc hk2
  go_wp2_with fail
  refine (records_any s 8 w2 HSRC.out (by omega) (by omega)).mono ?_
  rintro e w3 ⟨xs, A3, c3, rfl, h1, h2, h3, h4, h5, h6, h7⟩
  obtain ⟨-, hla⟩ := mk_list (w := w) (most := 8) (big := 8) (h5.mono RBs_good (S' := All) fun _ _ _ => trivial) (by omega) h4 (K2.out.outer HS.out h7)
  have HL := Lib.hid hla
  have hcnt := hla.cnt
  clear h1 h2 h3 h4 h5 h6 h7 hla
  have hpos : posL xs xs.length ≤ 128 := by have h1 := posL_le xs 8 HL.out.big; have h2 := Nat.mul_le_mul_right 16 hcnt; omega
  have hj := jrn_some xs (fun q hq => by have := HL.out.big q hq; omega) (by omega)
  have hjl : (joinF 0 xs).length = posL xs xs.length := joinF_len xs 0
  have HJ := Lib.hid hj
  have HPOS := Lib.hid hpos
  clear hj
  go_wp2_with fail
  refine (written_any A3 _ c3 xs w3 HL.out.rd rfl (by omega) (fun q hq => by have := HL.out.big q hq; omega)).mono ?_
  rw [HJ.out]
  rintro e w5 ⟨A5, c5, rfl, h51, h52, h53, h54⟩
  have hjl2 : (joinF 0 xs).length ≤ 128 := by omega
  have HJL := Lib.hid hjl
  generalize hjj : joinF 0 xs = j at *
  have HJJ := Lib.hid hjj
  have HC5 := Lib.hid h51
  have HM5 := Lib.hid h52
  have HR5 := Lib.hid (h53.mono RB_good (S' := All) fun _ _ _ => trivial)
  have HX5 := Lib.hid (HL.out.rd.kept RBs_good h54)
  have K5 := Lib.hid (HL.out.kept.trans h54)
  clear h51 h52 h53 h54 hjj HJ hjl hpos
  by_cases hz : j.length = 0
  · have hb : ((j.length : Int) == 0) = true := by rw [beq_iff_eq]; omega
    clear hz
    go_wp2_with fail
    refine (awake_any w5).mono ?_
    rintro e w6 ⟨rfl, hk6⟩
    have K6 := Lib.hid (K5.out.trans hk6)
    clear hk6
    go_wp2_with fail
    go_ret
    exact ⟨rfl, K6.out⟩
  have hb : ((j.length : Int) == 0) = false := by rw [beq_eq_false_iff_ne]; omega
  by_cases hy : by' = 0
  · have hb2 : ((by'.toNat : Int) == 0) = true := by rw [hy]; rfl
    clear hy
    go_wp2_with fail
    refine (awake_any w5).mono ?_
    rintro e w6 ⟨rfl, hk6⟩
    have K6 := Lib.hid (K5.out.trans hk6)
    clear hk6
    go_wp2_with fail
    go_ret
    exact ⟨rfl, K6.out⟩
  have hb2 : ((by'.toNat : Int) == 0) = false := by
    rw [beq_eq_false_iff_ne]
    intro h
    exact hy (UInt8.toNat_inj.1 (by simpa using h))
  have HY := Lib.hid hy
  have hjpos : 0 < j.length := by omega
  clear hy hz
  go_wp2_with fail
  refine (mod_any at' j.length w5 W1.out (by unfold i64ok; omega)).mono ?_
  have hgm := gmod_bd at' j.length
  obtain ⟨g1, g2, -⟩ := hgm
  have g3 := g2 (by omega)
  clear g2
  obtain ⟨k, hk⟩ := Int.eq_ofNat_of_zero_le g1
  rw [hk] at g3 ⊢
  clear hk g1
  rintro e w5' ⟨rfl, rfl⟩
  have hkl : k < j.length := by omega
  clear g3
  have own0 := Lib.hid (Own.lit (S := All) (e := 5) w5 [] ([] : List UInt8) (R := RB) (sz := 1) Enc.nil RB_good (by unfold maxLen; simp))
  go_wp2_with (at_builtin; refine wp_stop ?_)
  unfold wpStop
  refine wpList_app RB_good Try.sty22 own0.out (HR5.out.kept RB_good ((Kept.refl All w5).alloc (.cells #[] 5))) (.inr fun _ _ _ _ h => h) rfl rfl rfl (m := j.length) rfl rfl ?_ ?_ ?_ ?_
  · simp
  · omega
  · simp
  intro A6 c6 w6 own6 hc6 hm6 hk6 hb6
  rw [List.nil_append] at own6
  have k56 : Kept All w5 w6 := ((Kept.refl All w5).alloc (.cells #[] 5)).through hk6 own0.out (Nat.le_refl _)
  obtain ⟨g, rfl, -⟩ := own6.addr (by omega)
  obtain ⟨hcell, hfro⟩ := own6.cell1 (f := u8v) hkl
  have hset := own6.set1 (f := u8v) k (j[k] ^^^ by')
  have hgd : j.getD k 0 = j[k] := by simp [List.getD, hkl]
  have hhit : j.set k (j[k] ^^^ by') = hit j k by' := by rw [hit, hgd]
  rw [hhit] at hset
  have hxo := w_xor8 j[k] by'
  have hcell' : w6.cell? ⟨g, k, none⟩ = some (.int .u8 (j[k].toNat : Int)) := hcell
  generalize j[k] = y at *
  have hyl := u8_lt y
  generalize y ^^^ by' = z at *
  have hgw : w5.heap.size ≤ g := (own6.blk g rfl).1
  have K6 := Lib.hid (k56.setCell (p := ⟨g, k, none⟩) (.inr hgw) (u8v z))
  have HSET := Lib.hid (show Own RB 1 5 w5.heap.size All (w6.setCell ⟨g, k, none⟩ (.int .u8 (z.toNat : Int))) (.slice (some ⟨g, 0, none⟩) j.length c6) (hit j k by') from hset)
  have hl6 : (hit j k by').length = j.length := hit_len _ _ _
  have HL6 := Lib.hid hl6
  clear own6 hk6 hb6 k56 hcell hset hgd hhit hl6 hc6 hm6 own0
  obtain ⟨A7, c7, hv7, h71, h72, h73⟩ := HSET.out.rd (S := All) RB_good (fun _ _ _ => trivial)
  rw [HL6.out] at hv7 h71
  injection hv7 with e1 _ e2
  subst e1; subst e2
  have HR7 := Lib.hid h73
  have HC7 := Lib.hid h71
  have HM7 := Lib.hid h72
  have K7 := Lib.hid (show Kept All w5 (w6.setCell ⟨g, k, none⟩ (.int .u8 (z.toNat : Int))) from K6.out)
  obtain ⟨i, hi1, hi2, hi3⟩ := pos_idx xs k (by rw [← HJL.out]; exact hkl)
  have hrec : recs (hit j k by') = (xs.take i, posL xs i) := by
    rw [← HJJ.out]
    exact recs_hit xs i k by' (fun q hq => by have := HL.out.big q hq; omega) (by have := HPOS.out; omega) hi1 hi2 hi3 HY.out
  have HREC := Lib.hid hrec
  clear h71 h72 h73 hrec K6
  go_wp2_with fail
  refine (records21_n _ _ c6 (hit j k by') _ HR7.out (by rw [HL6.out]; omega) HL6.out.symm HC7.out HM7.out).mono ?_
  rw [HREC.out]
  rintro e w8 ⟨A8, c8, rfl, h81, h82, h83, hk8⟩
  have hlx : (xs.take i).length = i := by rw [List.length_take]; omega
  simp only [hlx] at h81 ⊢
  have K8 := Lib.hid (K7.out.trans hk8)
  have HR8 := Lib.hid (h83.mono RBs_good (S' := All) fun _ _ _ => trivial)
  have HX8 := Lib.hid (HX5.out.kept RBs_good (K7.out.trans hk8))
  have HLX := Lib.hid hlx
  clear h81 h82 h83 hk8 hlx HR7 HSET
  go_wp2_with fail
  refine (frames_any A3 _ c3 xs w8 HX8.out rfl (by omega) (by have := HPOS.out; omega)).mono ?_
  rintro e w9 ⟨A9, c9, rfl, h91, h92, h93, hk9⟩
  rw [startsL_len]
  rw [startsL_len] at h91
  have K9 := Lib.hid (K8.out.trans hk9)
  have HR9 := Lib.hid (h93.mono RI_good (S' := All) fun _ _ _ => trivial)
  have HX9 := Lib.hid (HX8.out.kept RBs_good hk9)
  have HY9 := Lib.hid (HR8.out.kept RBs_good hk9)
  clear h91 h92 h93 hk9 HX8 HR8
  go_wp2_with fail
  go_loop [16] (fun x => ∃ q : Nat, q ≤ i ∧ x = .int .i64 q) (fun x => i - (intOf x).toNat)
  case atStart => exact ⟨0, by omega, rfl⟩
  case round =>
    obtain ⟨q, hq, rfl⟩ := hrel
    obtain ⟨g9, o9, rfl, -, hc9⟩ := nat_at HR9.out (k := q + 1) (by rw [startsL_len]; omega)
    rw [startsL_get] at hc9
    have p1 : (q : Int) + 1 < (xs.length : Int) + 1 := by omega
    have p2 : decide ((q : Int) + 1 < (xs.length : Int) + 1) = true := by rw [decide_eq_true_eq]; exact p1
    by_cases hlt : q < i
    · have hle : posL xs (q + 1) ≤ k := Nat.le_trans (posL_mono xs (by omega)) hi2
      have p3 : decide ((posL xs (q + 1) : Int) ≤ (k : Int)) = true := by rw [decide_eq_true_eq]; omega
      go_wp2_with fail
      exact ⟨⟨q + 1, by omega, by go_num⟩, by simp [intOf]; omega⟩
    · obtain rfl : q = i := by omega
      have p3 : decide ((posL xs (q + 1) : Int) ≤ (k : Int)) = false := by rw [decide_eq_false_iff_not]; omega
      obtain ⟨g9', o9', e9, -, hc9'⟩ := nat_at HR9.out (k := q) (by rw [startsL_len]; omega)
      rw [startsL_get] at hc9'
      injection e9 with e9; injection e9 with e1 e2; subst e1; subst e2
      have p4 : (q : Int) < (xs.length : Int) + 1 := by omega
      have hsame := Lib.hid (decide_eq_true (p := xs.take q = xs.take q) rfl)
      have hle3 : xs.length ≤ c3 := HL.out.le
      have p5 : (q : Int) ≤ (c3 : Int) := by omega
      have HT9 := Lib.hid (HX9.out.part 0 q A3 (fun g o e _ => by rw [e]; simp))
      clear hsame
      go_wp2_with fail
      refine (same_any A8 A3 q q c8 c3 (xs.take q) (xs.take q) w9 HY9.out HT9.out HLX.out.symm HLX.out.symm (by have := HLX.out; omega) (by have := HLX.out; omega)).mono ?_
      rintro e w10 ⟨rfl, hk10⟩
      have K10 := Lib.hid (K9.out.trans hk10)
      clear hk10
      go_wp2_with fail
      refine (awake_any w10).mono ?_
      rintro e w11 ⟨rfl, hk11⟩
      have K11 := Lib.hid (K5.out.trans (K10.out.trans hk11))
      clear hk11
      go_wp2_with fail
      go_ret
      exact ⟨rfl, K11.out⟩
end Go.Proofs.Ytnedeajebhbjbaa
