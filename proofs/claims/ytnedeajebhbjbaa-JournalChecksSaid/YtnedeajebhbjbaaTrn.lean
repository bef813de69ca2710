import Derived.Test.YtnedeajebhbjbaaDmg
namespace Go.Proofs.Ytnedeajebhbjbaa
open Go.RowKit

theorem RdL.pre {α : Type} {R : Rel α} {S : Nat → Prop} {w : World} {A : Option Addr} {xs : List α} (h : RdL R 1 S w A xs) (q : Nat) : RdL R 1 S w A (xs.take q) :=
  h.part 0 q A (fun g o e _ => by rw [e]; simp)
theorem joinF_take_split (l : List (List UInt8)) (i : Nat) (h : i ≤ l.length) : joinF 0 l = joinF 0 (l.take i) ++ joinF i (l.drop i) := by
  conv => lhs; rw [← List.take_append_drop i l]
  rw [joinF_append]
  have : (l.take i).length = i := by rw [List.length_take]; omega
  rw [this, Nat.zero_add]
theorem joinF_take_len (l : List (List UInt8)) (i : Nat) (h : i ≤ l.length) : (joinF 0 (l.take i)).length = posL l i := by
  rw [joinF_len, posL_take l i h]
theorem recs_torn (l : List (List UInt8)) (i n : Nat) (hr : ∀ r ∈ l, r.length ≤ 4096) (hp : posL l l.length ≤ 4194304) (hi : i ≤ l.length) (h1 : posL l i ≤ n) (h2 : i < l.length → n < posL l (i + 1)) :
    recs ((joinF 0 l).take n) = (l.take i, posL l i) ∧ repairL ((joinF 0 l).take n) = joinF 0 (l.take i) := by
  have hlen := joinF_take_len l i hi
  have hti : (l.take i).length = i := by rw [List.length_take]; omega
  have hm := posL_mono l hi
  have e : (joinF 0 l).take n = joinF 0 (l.take i) ++ (joinF i (l.drop i)).take (n - posL l i) := by
    rw [joinF_take_split l i hi, List.take_append, List.take_of_length_le (by omega), hlen]
  have hf : firstL ((l.take i).length : Nat) ((joinF i (l.drop i)).take (n - posL l i)) = none := by
    rw [hti]
    by_cases h : i = l.length
    · rw [h, List.drop_length]
      show firstL _ (List.take _ []) = none
      rw [List.take_nil]
      exact firstL_nil _
    · have hlt : i < l.length := by omega
      have h3 := h2 hlt
      have h4 := posL_succ l i hlt
      rw [List.drop_eq_getElem_cons hlt]
      show firstL _ ((frameL i l[i] ++ _).take _) = none
      rw [List.take_append_of_le_length (by rw [frameL_len]; omega)]
      exact firstL_cut _ _ _ (hr _ (List.getElem_mem hlt)) (by omega)
  have hrec := recs_join (l.take i) _ (fun r h => hr r (List.mem_of_mem_take h)) (by omega) hf
  rw [hlen] at hrec
  refine ⟨by rw [e, hrec], ?_⟩
  rw [repairL, e, hrec]
  show List.take (posL l i) _ = _
  rw [List.take_append_of_le_length (by omega), ← hlen, List.take_length]
def nextL : List UInt8 := [110, 101, 120, 116]
theorem torn_next (l : List (List UInt8)) (i : Nat) (hr : ∀ r ∈ l, r.length ≤ 4096) (hp : posL l l.length ≤ 4000000) (hi : i ≤ l.length) :
    ∃ b2, appR (joinF 0 (l.take i)) nextL = (b2, 0) ∧ b2.length = posL l i + 12 ∧ recs b2 = (l.take i ++ [nextL], posL l i + 12) := by
  have hlen := joinF_take_len l i hi
  have hm := posL_mono l hi
  have hl2 : (joinF 0 (l.take i ++ [nextL])).length = posL l i + 12 := by
    rw [joinF_append, List.length_append, hlen]
    show _ + (frameL _ nextL ++ joinF _ []).length = _
    rw [List.length_append, frameL_len]
    rfl
  have hr2 : ∀ r ∈ l.take i, r.length ≤ 4096 := fun r h => hr r (List.mem_of_mem_take h)
  have h4 : nextL.length = 4 := rfl
  refine ⟨_, appR_join (l.take i) nextL hr2 (by omega) (by omega), hl2, ?_⟩
  have := recs_join (l.take i ++ [nextL]) [] (fun r h => by
    rcases List.mem_append.1 h with h | h
    · exact hr2 r h
    · have : r = nextL := by simpa using h
      rw [this]; omega) (by omega) (firstL_nil _)
  rw [List.append_nil, hl2] at this
  exact this

set_option maxRecDepth 100000 in
set_option maxHeartbeats 2000000 in
theorem walk9 (a0 : Option Addr) (len0 cap0 : Nat) (z0 : List Int) (cut : Int) (w : World) (w0 : IsRow .i64 w a0 len0 cap0 z0) (w1 : i64ok cut) :
    Calls Try.prog 9 #[.slice a0 len0 cap0, .int .i64 cut] w fun e w' => e = .returned (.bool true) ∧ Kept All w w' := by
  obtain ⟨l, hl1, hl2, hl3, hl4, hl5⟩ := w0.ints
  subst hl1
  have W1 := Lib.hid w1
  clear w0 w1
  go_enter Try.func9, Try.ntmps9
  go_wp2_with fail
  refine (new_n w _ _ _ l hl4 rfl hl2 hl3 hl5).mono ?_
  clear hl2 hl3 hl4 hl5
  rintro e w2 ⟨s, rfl, hs, hsrc, hk2⟩
  have HS := Lib.hid (show w.heap.size ≤ s by omega)
  have HSRC := Lib.hid hsrc
  have K2 := Lib.hid hk2
  clear hs hsrc hk2
  go_wp2_with fail
  refine (records_any s 10 w2 HSRC.out (by omega) (by omega)).mono ?_
  rintro e w3 ⟨xs, A3, c3, rfl, h1, h2, h3, h4, h5, h6, h7⟩
  obtain ⟨-, hla⟩ := mk_list (w := w) (most := 10) (big := 8) (h5.mono RBs_good (S' := All) fun _ _ _ => trivial) (by omega) h4 (K2.out.outer HS.out h7)
  have HL := Lib.hid hla
  have hcnt := hla.cnt
  clear h1 h2 h3 h4 h5 h6 h7 hla
  have hpos : posL xs xs.length ≤ 160 := by have h1 := posL_le xs 8 HL.out.big; have h2 := Nat.mul_le_mul_right 16 hcnt; omega
  have hj := jrn_some xs (fun q hq => by have := HL.out.big q hq; omega) (by omega)
  have hjl : (joinF 0 xs).length = posL xs xs.length := joinF_len xs 0
  have HJ := Lib.hid hj
  have HPOS := Lib.hid hpos
  clear hj
  go_wp2_with fail
  refine (written_any A3 _ c3 xs w3 HL.out.rd rfl (by omega) (fun q hq => by have := HL.out.big q hq; omega)).mono ?_
  rw [HJ.out]
  rintro e w5 ⟨A5, c5, rfl, h51, h52, h53, h54⟩
  have hjl2 : (joinF 0 xs).length ≤ 160 := by omega
  have HJL := Lib.hid hjl
  generalize hjj : joinF 0 xs = j at *
  have HJJ := Lib.hid hjj
  have HC5 := Lib.hid h51
  have HM5 := Lib.hid h52
  have HR5 := Lib.hid (h53.mono RB_good (S' := All) fun _ _ _ => trivial)
  have HX5 := Lib.hid (HL.out.rd.kept RBs_good h54)
  have K5 := Lib.hid (HL.out.kept.trans h54)
  clear h51 h52 h53 h54 hjj HJ hjl hpos
  go_wp2_with fail
  refine (mod_any cut ((j.length : Int) + 1) w5 W1.out (by unfold i64ok; omega)).mono ?_
  have hgm := gmod_bd cut ((j.length : Int) + 1)
  obtain ⟨g1, g2, -⟩ := hgm
  have g3 := g2 (by omega)
  clear g2
  obtain ⟨n, hn⟩ := Int.eq_ofNat_of_zero_le g1
  rw [hn] at g3 ⊢
  clear hn g1
  rintro e w5' ⟨rfl, rfl⟩
  have hnl : n ≤ j.length := by omega
  clear g3
  have hxc : xs.length ≤ c3 := HL.out.le
  go_wp2_with fail
  go_loop [10, 11] (fun x y => ∃ q : Nat, q ≤ xs.length ∧ posL xs q ≤ n ∧ x = .int .i64 q ∧ y = .int .i64 (posL xs q : Int)) (fun x _ => xs.length - (intOf x).toNat)
  case atStart => exact ⟨0, by omega, by rw [posL_zero]; omega, rfl, by rw [posL_zero]; rfl⟩
  case round =>
    obtain ⟨q, hq, hqn, rfl, rfl⟩ := hrel
    have hmono := posL_mono xs hq
    have hps := HPOS.out
    by_cases hgo : q < xs.length ∧ posL xs (q + 1) ≤ n
    · obtain ⟨hlt, hle⟩ := hgo
      obtain ⟨g, o, A4, c4, hA, hcell, -, -, -⟩ := list_at HX5.out hlt
      subst hA
      have hs := posL_succ xs q hlt
      generalize xs[q] = r at *
      have hps2 := posL_mono xs (i := q + 1) (j := xs.length) hlt
      have p1 : decide ((q : Int) < (xs.length : Int)) = true := by rw [decide_eq_true_eq]; omega
      have p2 : decide ((posL xs q : Int) + (r.length : Int) + 8 ≤ (n : Int)) = true := by rw [decide_eq_true_eq]; omega
      have p3 : 0 < xs.length := by omega
      have p4 : (q : Int) < (xs.length : Int) := by omega
      have p5 : posL xs q + r.length + 8 ≤ 160 := by omega
      have HSS := Lib.hid hs
      clear hs hps hps2 hmono
      go_wp2_with fail
      exact ⟨⟨q + 1, by omega, hle, by go_num, by rw [HSS.out]; go_num⟩, by simp [intOf]; omega⟩
    · have hpj : posL xs xs.length ≤ 4000000 := by omega
      have hbig : ∀ r ∈ xs, r.length ≤ 4096 := fun r hr => by have := HL.out.big r hr; omega
      obtain ⟨TR, TP⟩ := recs_torn xs q n hbig (by omega) hq hqn (fun h => by
        rcases Nat.lt_or_ge n (posL xs (q + 1)) with h1 | h1
        · exact h1
        · exact absurd ⟨h, h1⟩ hgo)
      obtain ⟨b2, TA, TL, T2⟩ := torn_next xs q hbig hpj hq
      have TL1 := joinF_take_len xs q hq
      rw [HJJ.out] at TR TP
      generalize hb1 : joinF 0 (xs.take q) = b1 at *
      have HTR := Lib.hid TR
      have HTP := Lib.hid TP
      have HTA := Lib.hid TA
      have HTL := Lib.hid TL
      have HT2 := Lib.hid T2
      have HTL1 := Lib.hid TL1
      have hpq : posL xs q ≤ 160 := by omega
      clear TR TP TA TL T2 TL1 hb1 hpj hmono hps
      have hlt2 : (xs.take q).length = q := by rw [List.length_take]; omega
      have HLT := Lib.hid hlt2
      have hnc : (n : Int) ≤ (c5 : Int) := by have := HC5.out; omega
      have hnj : (n : Int) ≤ (j.length : Int) := by omega
      clear hlt2
      have HN := Lib.hid (HR5.out.pre n)
      have hqc : (q : Int) ≤ (c3 : Int) := by omega
      have hr8 := HL.out.big
      have HBIG := Lib.hid hr8
      clear hr8
      by_cases hlt : q < xs.length
      focus
        obtain ⟨g, o, A4, c4, hA, hcell, -, -, -⟩ := list_at HX5.out hlt
        have hs := posL_succ xs q hlt
        have hr8 : (xs[q]).length ≤ 8 := HBIG.out _ (List.getElem_mem hlt)
        generalize xs[q] = r at *
        have hle : n < posL xs (q + 1) := by
          rcases Nat.lt_or_ge n (posL xs (q + 1)) with h1 | h1
          · exact h1
          · exact absurd ⟨hlt, h1⟩ hgo
        have p1 : decide ((q : Int) < (xs.length : Int)) = true := by rw [decide_eq_true_eq]; omega
        have p2 : decide ((posL xs q : Int) + (r.length : Int) + 8 ≤ (n : Int)) = false := by rw [decide_eq_false_iff_not]; omega
        have p3 : 0 < xs.length := by omega
        have p4 : (q : Int) < (xs.length : Int) := by omega
        subst hA
        clear hs hle hgo
        go_wp2_with fail
      rotate_left
      focus
        have p1 : decide ((q : Int) < (xs.length : Int)) = false := by rw [decide_eq_false_iff_not]; omega
        clear hgo
        go_wp2_with fail
      all_goals
        refine (records21_n A5 n c5 (j.take n) _ HN.out (by rw [List.length_take]; omega) (by rw [List.length_take]; omega) (by omega) HM5.out).mono ?_
        rw [HTR.out]
        rintro e w8 ⟨A8, c8, rfl, h81, h82, h83, hk8⟩
        simp only [HLT.out] at h81 ⊢
        have K8 := Lib.hid (K5.out.trans hk8)
        have HR8 := Lib.hid (h83.mono RBs_good (S' := All) fun _ _ _ => trivial)
        have HX8 := Lib.hid (HX5.out.kept RBs_good hk8)
        have HN8 := Lib.hid (HN.out.kept RB_good hk8)
        have HXP := Lib.hid (HX8.out.pre q)
        clear h81 h82 h83 hk8
        have hd1 : ((posL xs q : Int) != (posL xs q : Int)) = false := by rw [bne_eq_false_iff_eq]
        go_wp2_with fail
        refine (same_any A8 _ q q c8 c3 (xs.take q) (xs.take q) w8 HR8.out HXP.out HLT.out.symm HLT.out.symm (by have := HLT.out; omega) (by have := HLT.out; omega)).mono ?_
        rintro e w9 ⟨rfl, hk9⟩
        have K9 := Lib.hid (K8.out.trans hk9)
        have HX9 := Lib.hid (HX8.out.kept RBs_good hk9)
        have HN9 := Lib.hid (HN8.out.kept RB_good hk9)
        have hd2 : decide (xs.take q = xs.take q) = true := decide_eq_true rfl
        rw [hd2]
        clear hk9 hd2 HX8 HN8 HXP HR8
        go_wp2_with fail
        refine (repair25_n A5 n c5 (j.take n) w9 HN9.out (by rw [List.length_take]; omega) (by rw [List.length_take]; omega) (by omega) HM5.out).mono ?_
        rw [HTP.out]
        rintro e w10 ⟨A10, c10, rfl, h101, h102, h103, hk10⟩
        rw [HTL1.out] at h101 ⊢
        have HR10 := Lib.hid (h103.mono RB_good (S' := All) fun _ _ _ => trivial)
        have HC10 := Lib.hid h101
        have HM10 := Lib.hid h102
        have K10 := Lib.hid (K9.out.trans hk10)
        have HX10 := Lib.hid (HX9.out.kept RBs_good hk10)
        clear h101 h102 h103 hk10 HX9 HN9
        have hcv := fun (w : World) (C : Array Value) (n c : Nat) => Lib.run_convert_bytes_const (P := Try.prog) w 22 5 C n c under22 under5
        go_wp2_with fail
        clear hcv
        have lit : RdL RB 1 All (w10.alloc (.cells #[.int .u8 110, .int .u8 101, .int .u8 120, .int .u8 116] 5 (4, 5))) (some ⟨w10.heap.size, 0, none⟩) nextL := RdL.litM (e := 5) (Enc.flat1 (f := u8v) (S := All) (w := w10) nextL) RB_good trivial (4, 5)
        have k10 := (Kept.refl All w10).alloc (.cells #[.int .u8 110, .int .u8 101, .int .u8 120, .int .u8 116] 5 (4, 5))
        refine (append27_n A10 _ (posL xs q) 4 c10 4 b1 nextL _ (HR10.out.kept RB_good k10) (by have := HTL1.out; omega) HTL1.out.symm (by have := HTL1.out; have := HC10.out; omega) HM10.out lit rfl (by show 4 ≤ 5000000; omega)).mono ?_
        rw [HTA.out]
        clear lit
        rintro e w11 ⟨A11, c11, rfl, h111, h112, h113, hk11⟩
        simp only [HTL.out] at h111 ⊢
        have HR11 := Lib.hid (h113.mono RB_good (S' := All) fun _ _ _ => trivial)
        have HC11 := Lib.hid h111
        have HM11 := Lib.hid h112
        have K11 := Lib.hid (K10.out.trans (k10.trans hk11))
        have HX11 := Lib.hid (HX10.out.kept RBs_good (k10.trans hk11))
        clear h111 h112 h113 hk11 HX10 HR10 k10
        go_wp2_with fail
        refine (records21_n A11 _ c11 b2 w11 HR11.out (by have := HTL.out; omega) HTL.out.symm HC11.out HM11.out).mono ?_
        rw [HT2.out]
        rintro e w12 ⟨A12, c12, rfl, h121, h122, h123, hk12⟩
        have hl12 : (xs.take q ++ [nextL]).length = q + 1 := by rw [List.length_append, HLT.out]; rfl
        simp only [hl12] at h121 ⊢
        have HR12 := Lib.hid (h123.mono RBs_good (S' := All) fun _ _ _ => trivial)
        have HX12 := Lib.hid ((HX11.out.kept RBs_good hk12).pre q)
        have hy0 : (xs.take q ++ [nextL]).take q = xs.take q := by rw [List.take_append_of_le_length (by rw [HLT.out]; omega), List.take_of_length_le (by rw [HLT.out]; omega)]
        have HY12 := Lib.hid (show RdL RBs 1 All w12 A12 (xs.take q) from by have := HR12.out.pre q; rw [hy0] at this; exact this)
        obtain ⟨g2, o2, A13, c13, hA12, hc13, h131, h132, h133⟩ := list_at HR12.out (k := q) (by rw [hl12]; omega)
        have hnx : (xs.take q ++ [nextL])[q]'(by rw [hl12]; omega) = nextL := by
          rw [List.getElem_append_right (by rw [HLT.out]; omega)]
          simp [HLT.out]
        rw [hnx] at hc13 h133
        have hc13 : w12.cell? ⟨g2, o2 + q, none⟩ = some (.slice A13 4 c13) := hc13
        subst hA12
        have K12 := Lib.hid (K11.out.trans hk12)
        have HR13 := Lib.hid h133
        have HC12 := Lib.hid hc13
        have hq12 : (q : Int) ≤ (c12 : Int) := by omega
        have hq13 : (q : Int) < (q : Int) + 1 := by omega
        clear h121 h122 h123 hk12 hl12 hnx h131 h132 h133 HX11 HR11 hy0
        go_wp2_with fail
        have hbt := bs_toList
        have hb1 : ((posL xs q : Int) + 12 == (posL xs q : Int) + 12) = true := by rw [beq_iff_eq]
        have hb2 : ((q : Int) + 1 == (q : Int) + 1) = true := by rw [beq_iff_eq]
        have q1 : IntKind.i64.wrap ((posL xs q : Int) + 12) = (posL xs q : Int) + 12 := IntWalk.i64_in _ (by omega)
        have q2 : IntKind.i64.wrap ((q : Int) + 1) = (q : Int) + 1 := IntWalk.i64_in _ (by omega)
        go_region_held3 (fun w' => w'.cell? ⟨g2, o2 + q, none⟩ = some (.slice A13 4 c13) ∧ Sem.run Try.prog (convert 22 9 (.slice A13 4 c13)) w' = .ok (.string (bs nextL)) w') (first
            | exact ⟨(Kept.refl All w12).drew.cell HC12.out trivial, conv22 (HR13.out.drew RB_good) rfl c13⟩
            | exact ⟨K14.out.cell HC12.out trivial, conv22 (HR13.out.kept RB_good K14.out) rfl c13⟩
            | exact ⟨K15.out.cell HC12.out trivial, conv22 (HR13.out.kept RB_good K15.out) rfl c13⟩) (first
          | (go_at_call 23; refine (same_any _ _ q q c12 c3 (xs.take q) (xs.take q) _ ?_ ?_ HLT.out.symm HLT.out.symm ?_ ?_).mono ?_; exact HY12.out.drew RBs_good; exact HX12.out.drew RBs_good; (have := HLT.out; omega); (have := HLT.out; omega); rintro e w14 ⟨rfl, hk14⟩; have K14 := Lib.hid hk14.of_drew; clear hk14)
          | (go_at_call 18; refine (awake_any _).mono ?_; rintro e w15 ⟨rfl, hk15⟩; have K15 := Lib.hid (K14.out.trans hk15); clear hk15))
        go_wp2_with fail
        go_ret
        exact ⟨rfl, K12.out.trans K15.out⟩
end Go.Proofs.Ytnedeajebhbjbaa
