import Derived.Test.YtnedeajebhbjbaaPlc
namespace Go.Proofs.Ytnedeajebhbjbaa
open Go.RowKit
set_option maxRecDepth 100000 in
set_option maxHeartbeats 2000000 in
theorem walk6 (a0 : Option Addr) (len0 cap0 : Nat) (z0 : List Int) (at' by' : Int) (w : World) (w0 : IsRow .i64 w a0 len0 cap0 z0) (w1 : i64ok at') (w2 : i64ok by') :
    Calls Try.prog 6 #[.slice a0 len0 cap0, .int .i64 at', .int .i64 by'] w fun e w' => e = .returned (.bool true) ∧ Kept All w w' := by
  obtain ⟨l, hl1, hl2, hl3, hl4, hl5⟩ := w0.ints
  subst hl1
  have W1 := Lib.hid w1
  have W2 := Lib.hid w2
  clear w0 w1 w2
  go_enter Try.func6, Try.ntmps6
  go_wp2_with fail
  refine (new_n w _ _ _ l hl4 rfl hl2 hl3 hl5).mono ?_
  clear hl2 hl3 hl4 hl5
  rintro e w2 ⟨s, rfl, hs, hsrc, hk2⟩
  have HS := Lib.hid (show w.heap.size ≤ s by omega)
  have HSRC := Lib.hid hsrc
  have K2 := Lib.hid hk2
  clear hs hsrc hk2
  go_wp2_with fail
  refine (records_any s 6 w2 HSRC.out (by omega) (by omega)).mono ?_
  rintro e w3 ⟨xs, A3, c3, rfl, h1, h2, h3, h4, h5, h6, h7⟩
  have K3 := Lib.hid (K2.out.outer HS.out h7)
  have K23 := Lib.hid h7
  have OWN := Lib.hid (h5.mono RBs_good (S' := All) fun _ _ _ => trivial)
  have HCNT := Lib.hid h3
  have HSM := Lib.hid h4
  clear h1 h2 h3 h4 h5 h6 h7
  have hcv := fun (w : World) (C : Array Value) (n c : Nat) => Lib.run_convert_bytes_const (P := Try.prog) w 22 5 C n c under22 under5
  have hcv2 := Lib.run_convert_bytes_const (P := Try.prog) (w3.alloc (.cells #[.int .u8 97] 5 (1, 2))) 22 5 #[.int .u8 98] 1 1 under22 under5
  rw [World.size_alloc] at hcv2
  go_wp2_with (at_builtin; refine wp_stop ?_)
  unfold wpStop
  have litA : RdL RB 1 (fun k => k = w3.heap.size ∨ k = w3.heap.size + 1 ∨ k = w3.heap.size + 1 + 1) (w3.alloc (.cells #[.int .u8 97] 5 (1, 2))) (some ⟨w3.heap.size, 0, none⟩) [97] :=
    RdL.litM (S := fun k => k = w3.heap.size ∨ k = w3.heap.size + 1 ∨ k = w3.heap.size + 1 + 1) (e := 5) (Enc.flat1 (f := u8v) (S := fun k => k = w3.heap.size ∨ k = w3.heap.size + 1 ∨ k = w3.heap.size + 1 + 1) (w := w3) [97]) RB_good (.inl rfl) (1, 2)
  have litA2 := litA.kept RB_good ((Kept.refl _ _).alloc (.cells #[.int .u8 98] 5 (1, 2)))
  have litB : RdL RB 1 (fun k => k = w3.heap.size ∨ k = w3.heap.size + 1 ∨ k = w3.heap.size + 1 + 1) ((w3.alloc (.cells #[.int .u8 97] 5 (1, 2))).alloc (.cells #[.int .u8 98] 5 (1, 2))) (some ⟨(w3.alloc (.cells #[.int .u8 97] 5 (1, 2))).heap.size, 0, none⟩) [98] :=
    RdL.litM (S := fun k => k = w3.heap.size ∨ k = w3.heap.size + 1 ∨ k = w3.heap.size + 1 + 1) (e := 5) (Enc.flat1 (f := u8v) (S := fun k => k = w3.heap.size ∨ k = w3.heap.size + 1 ∨ k = w3.heap.size + 1 + 1) (w := (w3.alloc (.cells #[.int .u8 97] 5 (1, 2)))) [98]) RB_good (by simp) (1, 2)
  rw [World.size_alloc] at litB
  have cellA : RBs (fun k => k = w3.heap.size ∨ k = w3.heap.size + 1 ∨ k = w3.heap.size + 1 + 1) _ [.slice (some ⟨w3.heap.size, 0, none⟩) 1 1] [97] := ⟨_, 1, rfl, by decide, by unfold maxLen; omega, litA2⟩
  have cellB : RBs (fun k => k = w3.heap.size ∨ k = w3.heap.size + 1 ∨ k = w3.heap.size + 1 + 1) _ [.slice (some ⟨w3.heap.size + 1, 0, none⟩) 1 1] [98] := ⟨_, 1, rfl, by decide, by unfold maxLen; omega, litB⟩
  have lit2 := RdL.lit (e := 22) (S := fun k => k = w3.heap.size ∨ k = w3.heap.size + 1 ∨ k = w3.heap.size + 1 + 1) ((Enc.single RBs_good cellA).append (Enc.single RBs_good cellB)) RBs_good (by simp)
  rw [World.size_alloc, World.size_alloc] at lit2
  have hbw : w2.heap.size ≤ w3.heap.size := (K23.out).size
  refine wpList_app RBs_good Try.sty28 (((OWN.out.alloc RBs_good _).alloc RBs_good _).alloc RBs_good _) lit2 (.inl fun k hk h => ⟨trivial, fun he => ?_⟩) rfl rfl rfl (m := xs.length + 2) rfl rfl rfl ?_ ?_ ?_
  · have h1 := OWN.out.blk k he.symm
    rcases h with h | h | h <;> omega
  · have := HCNT.out; omega
  · simp; omega
  intro A4 c4 w4 own4 hc4 hm4 hk4 hb4
  have kw := (((K3.out.alloc _).alloc _).alloc _).through hk4 (((OWN.out.alloc RBs_good _).alloc RBs_good _).alloc RBs_good _) K2.out.size
  obtain ⟨hylen, hla⟩ := mk_list (w := w) (most := 8) (big := 8) own4 (by have := HCNT.out; simp; omega) (fun r hr => by
    rcases List.mem_append.1 hr with h | h
    · exact HSM.out r h
    · simp at h
      rcases h with h | h <;> rw [h] <;> decide) kw
  have HL := Lib.hid hla
  rw [hylen]
  have hcnt : xs.length ≤ 6 := by have := HCNT.out; omega
  have HYL := Lib.hid hylen
  clear own4 hc4 hm4 hk4 hb4 kw hla litA litA2 litB cellA cellB lit2 hbw hcv hcv2 OWN hylen
  generalize hyy : xs ++ ([[97]] ++ [[98]]) = ys at *
  have hyle : ys.length ≤ 8 := by have := HYL.out; omega
  have hyge : 2 ≤ ys.length := by have := HYL.out; omega
  clear hyy
  have hpos : posL ys ys.length ≤ 128 := by have h1 := posL_le ys 8 HL.out.big; have h2 := Nat.mul_le_mul_right 16 hyle; omega
  have hj := jrn_some ys (fun q hq => by have := HL.out.big q hq; omega) (by omega)
  have hjl : (joinF 0 ys).length = posL ys ys.length := joinF_len ys 0
  have HJ := Lib.hid hj
  have HJL := Lib.hid hjl
  clear hj hjl
  go_wp2_with fail
  refine (written_any A4 _ c4 ys w4 HL.out.rd rfl (by omega) (fun q hq => by have := HL.out.big q hq; omega)).mono ?_
  rw [HJ.out]
  rintro e w5 ⟨A5, c5, rfl, h51, h52, h53, h54⟩
  have hbig : ∀ r ∈ ys, r.length ≤ 4096 := fun r hr => by have := HL.out.big r hr; omega
  have hout := Lib.hid fun i (hi : i < ys.length) => recs_out ys i hbig (by omega) hi (by omega)
  have hmov := Lib.hid fun i k t (hi : i < ys.length) (hk : k < ys.length) (h : i ≠ k) => recs_moved ys i k t hbig (by omega) hi hk h (by omega)
  have hjl2 : (joinF 0 ys).length ≤ 128 := by have := HJL.out; omega
  have hj4 := HJL.out
  generalize hjj : joinF 0 ys = j at *
  have HC5 := Lib.hid h51
  have HM5 := Lib.hid h52
  have HR5 := Lib.hid (h53.mono RB_good (S' := All) fun _ _ _ => trivial)
  have HX5 := Lib.hid (HL.out.rd.kept RBs_good h54)
  have K5 := Lib.hid (HL.out.kept.trans h54)
  have HJ4 := Lib.hid hj4
  clear h51 h52 h53 h54 hjj HJ hj4 HJL hbig
  go_wp2_with fail
  refine (frames_any A4 _ c4 ys w5 HX5.out rfl (by omega) (by omega)).mono ?_
  rintro e w6 ⟨A6, c6, rfl, h61, h62, h63, hk6⟩
  rw [startsL_len] at h61 ⊢
  have K6 := Lib.hid (K5.out.trans hk6)
  have HR6 := Lib.hid (h63.mono RI_good (S' := All) fun _ _ _ => trivial)
  have HX6 := Lib.hid (HX5.out.kept RBs_good hk6)
  have HJ6 := Lib.hid (HR5.out.kept RB_good hk6)
  obtain ⟨g6, o6, hA6, -, hc6⟩ := nat_at HR6.out (k := ys.length) (by rw [startsL_len]; omega)
  rw [startsL_get] at hc6
  subst hA6
  clear h61 h62 h63 hk6 HX5 HR5
  have hj6 : ((j.length : Int) != (posL ys ys.length : Int)) = false := by rw [bne_eq_false_iff_eq, HJ4.out]
  have hl6 : (ys.length : Int) < (ys.length : Int) + 1 := by omega
  go_wp2_with fail
  refine (mod_any at' ys.length w6 W1.out (by unfold i64ok; omega)).mono ?_
  obtain ⟨g1, g2, -⟩ := gmod_bd at' ys.length
  have g3 := g2 (by omega)
  clear g2
  obtain ⟨i, hi⟩ := Int.eq_ofNat_of_zero_le g1
  rw [hi] at g3 ⊢
  clear hi g1
  rintro e w6' ⟨rfl, rfl⟩
  have hil : i < ys.length := by omega
  clear g3
  go_wp2_with fail
  refine (mod_any by' ys.length w6 W2.out (by unfold i64ok; omega)).mono ?_
  obtain ⟨g1, g2, -⟩ := gmod_bd by' ys.length
  have g3 := g2 (by omega)
  clear g2
  obtain ⟨k, hk⟩ := Int.eq_ofNat_of_zero_le g1
  rw [hk] at g3 ⊢
  clear hk g1
  rintro e w6' ⟨rfl, rfl⟩
  have hkl : k < ys.length := by omega
  clear g3
  obtain ⟨g5, o5, hA5, -, -⟩ := byte_at HJ6.out (k := 0) (by have h1 := HJ4.out; have h2 := posL_succ ys i hil; have h3 := posL_mono ys (i := i + 1) (j := ys.length) hil; omega)
  subst hA5
  have hst := fun q (hq : q ≤ ys.length) => (show w6.cell? ⟨g6, o6 + q, none⟩ = some (.int .i64 (posL ys q : Int)) from by
    obtain ⟨g, o, e, -, hc⟩ := nat_at HR6.out (k := q) (by rw [startsL_len]; omega)
    rw [startsL_get] at hc
    injection e with e; injection e with e1 e2; subst e1; subst e2; exact hc)
  have HST := Lib.hid hst
  have ci := hst i (by omega)
  have ci1 := hst (i + 1) (by omega)
  have m1 : (i : Int) < (ys.length : Int) := by omega
  have m2 : (i : Int) + 1 < (ys.length : Int) + 1 := by omega
  have m3 : (i : Int) < (ys.length : Int) + 1 := by omega
  have pi1 := posL_mono ys (i := i + 1) (j := ys.length) hil
  have pi0 := posL_mono ys (i := i) (j := ys.length) (by omega)
  have hpj : posL ys ys.length ≤ j.length := by have h := HJ4.out; omega
  have hjc := HC5.out
  have b1 : (posL ys i : Int) ≤ (c5 : Int) := by omega
  have b2 : (posL ys i : Int) ≤ (j.length : Int) := by omega
  have b3 : (posL ys (i + 1) : Int) ≤ (c5 : Int) := by omega
  have b4 : (posL ys (i + 1) : Int) ≤ (j.length : Int) := by omega
  clear hst hc6 hl6
  go_wp2_with fail
  have m4 : decide ((i : Int) + 1 < (ys.length : Int) + 1) = true := by rw [decide_eq_true_eq]; omega
  have m5 : (0 : Int) ≤ (i : Int) + 1 := by omega
  have m6 : IntKind.i64.wrap ((i : Int) + 1) = (i : Int) + 1 := IntWalk.i64_in _ (by omega)
  have own0 := Lib.hid (Own.lit (S := All) (e := 5) w6.drew [] ([] : List UInt8) (R := RB) (sz := 1) Enc.nil RB_good (by unfold maxLen; simp))
  have R1 := Lib.hid ((HJ6.out.kept RB_good ((Kept.refl All w6).drew.alloc (.cells #[] 5))).pre (posL ys i))
  have hl1 : posL ys i = (j.take (posL ys i)).length := by rw [List.length_take]; omega
  have HL1 := Lib.hid hl1
  have HL2 := Lib.hid (show j.length - posL ys (i + 1) = (j.drop (posL ys (i + 1))).length by rw [List.length_drop])
  have HM2 := Lib.hid (show posL ys i + (j.length - posL ys (i + 1)) = (([] : List UInt8) ++ j.take (posL ys i)).length + (j.drop (posL ys (i + 1))).length by rw [List.nil_append, ← HL1.out, ← HL2.out])
  clear hl1
  go_region_held3 (fun w' => Kept All w6 w' ∧ w'.cell? ⟨g6, o6 + i, none⟩ = some (.int .i64 (posL ys i : Int)) ∧ w'.cell? ⟨g6, o6 + (i + 1), none⟩ = some (.int .i64 (posL ys (i + 1) : Int))) (first
    | exact ⟨(Kept.refl All w6).drew, (Kept.refl All w6).drew.cell ci trivial, (Kept.refl All w6).drew.cell ci1 trivial⟩
    | exact ⟨(Kept.refl All w6).drew.alloc _, ((Kept.refl All w6).drew.alloc _).cell ci trivial, ((Kept.refl All w6).drew.alloc _).cell ci1 trivial⟩
    | exact ⟨K8.out, K8.out.cell ci trivial, K8.out.cell ci1 trivial⟩
    | exact ⟨K9.out, K9.out.cell ci trivial, K9.out.cell ci1 trivial⟩) (first
    | (refine step_app RB_good Try.sty22 own0.out R1.out (.inr fun _ _ _ _ h => h) rfl rfl rfl (m := posL ys i) rfl HL1.out ?_ ?_ ?_ ?_; (rw [List.length_nil, Nat.zero_add]; exact HL1.out); omega; simp; intro A8 c8 w8 own8 hc8 hm8 hk8 hb8; have K8 := Lib.hid (((Kept.refl All w6).drew.alloc (.cells #[] 5)).through hk8 own0.out (Nat.le_refl _)); have OWN8 := Lib.hid own8; have R2 := Lib.hid ((HJ6.out.kept RB_good K8.out).cutIfD (posL ys (i + 1)) c5 hjc); clear own8 hc8 hm8 hk8 hb8)
    | (refine step_app RB_good Try.sty22 OWN8.out R2.out (.inr fun _ _ _ _ h => h) rfl rfl rfl (m := posL ys i + (j.length - posL ys (i + 1))) rfl HL2.out ?_ ?_ ?_ ?_; exact HM2.out; omega; exact K8.out.size; intro A9 c9 w9 own9 hc9 hm9 hk9 hb9; have K9 := Lib.hid (K8.out.through hk9 OWN8.out (Nat.le_refl _)); have OWN9 := Lib.hid own9; clear own9 hc9 hm9 hk9 hb9))
  clear R2
  generalize (if c5 = posL ys (i + 1) then some (⟨g5, o5, none⟩ : Addr) else some ⟨g5, o5 + posL ys (i + 1), none⟩) = Ax
  have hrec := hout.out i hil
  obtain ⟨A', c', hv9, h91, h92, h93⟩ := OWN9.out.rd (S := All) RB_good (fun _ _ _ => trivial)
  rw [List.nil_append] at hv9 h91 h93
  injection hv9 with e1 hlen9 e2
  subst e1; subst e2
  have HREC := Lib.hid hrec
  have HR9 := Lib.hid h93
  have HC9 := Lib.hid h91
  have HM9 := Lib.hid h92
  have HLN := Lib.hid hlen9
  have hl9 : posL ys i + (j.length - posL ys (i + 1)) ≤ 300 := by omega
  clear h91 h92 h93 hlen9 hrec own0 R1
  go_wp2_with fail
  refine (records21_n _ _ c9 _ w9 HR9.out (by rw [← HLN.out]; omega) HLN.out (by rw [HLN.out]; exact HC9.out) HM9.out).mono ?_
  rw [HREC.out]
  rintro e w10 ⟨A10, c10, rfl, h101, h102, h103, hk10⟩
  have hlt : (ys.take i).length = i := by rw [List.length_take]; omega
  have HLT := Lib.hid hlt
  simp only [hlt] at h101 ⊢
  have K10 := Lib.hid (K9.out.trans hk10)
  have HR10 := Lib.hid (h103.mono RBs_good (S' := All) fun _ _ _ => trivial)
  have HX10 := Lib.hid ((HX6.out.kept RBs_good K10.out).pre i)
  have di := K10.out.cell ci trivial
  have hyc : ys.length ≤ c4 := HL.out.le
  have n1 : (i : Int) ≤ (c4 : Int) := by omega
  have n2 : ((posL ys i : Int) != (posL ys i : Int)) = false := by rw [bne_eq_false_iff_eq]
  clear h101 h102 h103 hk10 hlt
  go_wp2_with fail
  refine (same_any A10 A4 i i c10 c4 (ys.take i) (ys.take i) w10 HR10.out HX10.out HLT.out.symm HLT.out.symm (by rw [HLT.out]; omega) (by rw [HLT.out]; omega)).mono ?_
  rintro e w11 ⟨rfl, hk11⟩
  have hd2 : decide (ys.take i = ys.take i) = true := decide_eq_true rfl
  rw [hd2]
  have K11 := Lib.hid (K10.out.trans hk11)
  clear hk11 hd2 HX10 HR10 di
  by_cases hik : i = k
  · have hb : ((i : Int) == (k : Int)) = true := by rw [beq_iff_eq, hik]
    clear hik
    go_wp2_with fail
    refine (awake_any w11).mono ?_
    rintro e w12 ⟨rfl, hk12⟩
    have K12 := Lib.hid (K6.out.trans (K11.out.trans hk12))
    clear hk12
    go_wp2_with fail
    go_ret
    exact ⟨rfl, K12.out⟩
  have hb : ((i : Int) == (k : Int)) = false := by rw [beq_eq_false_iff_ne]; omega
  have HIK := Lib.hid hik
  clear hik
  go_wp2_with fail
  have HJ11 := Lib.hid (HJ6.out.kept RB_good K11.out)
  have di := K11.out.cell ci trivial
  have dk := K11.out.cell (HST.out k (by omega)) trivial
  have dk1 := K11.out.cell (HST.out (k + 1) (by omega)) trivial
  have di1 := K11.out.cell ci1 trivial
  have q1 : (k : Int) < (ys.length : Int) := by omega
  have q2 : (k : Int) + 1 < (ys.length : Int) + 1 := by omega
  have q3 : (k : Int) < (ys.length : Int) + 1 := by omega
  have q4 : decide ((k : Int) + 1 < (ys.length : Int) + 1) = true := by rw [decide_eq_true_eq]; omega
  have q5 : (0 : Int) ≤ (k : Int) + 1 := by omega
  have q6 : IntKind.i64.wrap ((k : Int) + 1) = (k : Int) + 1 := IntWalk.i64_in _ (by omega)
  have qk1 := posL_mono ys (i := k + 1) (j := ys.length) hkl
  have qk0 := posL_mono ys (i := k) (j := k + 1) (by omega)
  have r1 : (posL ys k : Int) ≤ (posL ys (k + 1) : Int) := by omega
  have r3 : (posL ys (k + 1) : Int) ≤ (c5 : Int) := by omega
  have own0 := Lib.hid (Own.lit (S := All) (e := 5) w11.drew [] ([] : List UInt8) (R := RB) (sz := 1) Enc.nil RB_good (by unfold maxLen; simp))
  have R1 := Lib.hid ((HJ11.out.kept RB_good ((Kept.refl All w11).drew.alloc (.cells #[] 5))).pre (posL ys i))
  have HL3 := Lib.hid (show posL ys (k + 1) - posL ys k = ((j.drop (posL ys k)).take (posL ys (k + 1) - posL ys k)).length by rw [List.length_take, List.length_drop]; omega)
  have HM3 := Lib.hid (show posL ys i + (posL ys (k + 1) - posL ys k) = (([] : List UInt8) ++ j.take (posL ys i)).length + ((j.drop (posL ys k)).take (posL ys (k + 1) - posL ys k)).length by rw [List.nil_append, ← HL1.out, ← HL3.out])
  clear ci ci1
  go_region_held3 (fun w' => Kept All w11 w' ∧ w'.cell? ⟨g6, o6 + i, none⟩ = some (.int .i64 (posL ys i : Int)) ∧ w'.cell? ⟨g6, o6 + k, none⟩ = some (.int .i64 (posL ys k : Int)) ∧ w'.cell? ⟨g6, o6 + (k + 1), none⟩ = some (.int .i64 (posL ys (k + 1) : Int))) (first
    | exact ⟨(Kept.refl All w11).drew, (Kept.refl All w11).drew.cell di trivial, (Kept.refl All w11).drew.cell dk trivial, (Kept.refl All w11).drew.cell dk1 trivial⟩
    | exact ⟨(Kept.refl All w11).drew.alloc _, ((Kept.refl All w11).drew.alloc _).cell di trivial, ((Kept.refl All w11).drew.alloc _).cell dk trivial, ((Kept.refl All w11).drew.alloc _).cell dk1 trivial⟩
    | exact ⟨K12.out, K12.out.cell di trivial, K12.out.cell dk trivial, K12.out.cell dk1 trivial⟩
    | exact ⟨K13.out, K13.out.cell di trivial, K13.out.cell dk trivial, K13.out.cell dk1 trivial⟩) (first
    | (refine step_app RB_good Try.sty22 own0.out R1.out (.inr fun _ _ _ _ h => h) rfl rfl rfl (m := posL ys i) rfl HL1.out ?_ ?_ ?_ ?_; (rw [List.length_nil, Nat.zero_add]; exact HL1.out); omega; simp; intro A12 c12 w12 own12 hc12 hm12 hk12 hb12; have K12 := Lib.hid (((Kept.refl All w11).drew.alloc (.cells #[] 5)).through hk12 own0.out (Nat.le_refl _)); have OWN12 := Lib.hid own12; have R2 := Lib.hid ((HJ11.out.kept RB_good K12.out).cutIf (posL ys k) (posL ys (k + 1) - posL ys k) c5 hjc); clear own12 hc12 hm12 hk12 hb12)
    | (refine step_app RB_good Try.sty22 OWN12.out R2.out (.inr fun _ _ _ _ h => h) rfl rfl rfl (m := posL ys i + (posL ys (k + 1) - posL ys k)) rfl HL3.out ?_ ?_ ?_ ?_; exact HM3.out; omega; exact K12.out.size; intro A13 c13 w13 own13 hc13 hm13 hk13 hb13; have K13 := Lib.hid (K12.out.through hk13 OWN12.out (Nat.le_refl _)); have OWN13 := Lib.hid own13; clear own13 hc13 hm13 hk13 hb13))
  clear R2
  generalize (if c5 = posL ys k then some (⟨g5, o5, none⟩ : Addr) else some ⟨g5, o5 + posL ys k, none⟩) = Ay
  have fi1 := K13.out.cell di1 trivial
  have fi := K13.out.cell di trivial
  have HJ13 := Lib.hid (HJ11.out.kept RB_good K13.out)
  clear own0 R1
  go_wp2_with (with_reducible refine wp_at_slice rfl ?_)
  unfold wpStop
  refine wpList_cutL RB_good Try.sty22 HJ13.out rfl rfl rfl rfl (posL ys (i + 1)) (j.length - posL ys (i + 1)) rfl (by omega) hjc rfl ?_
  intro A14 hr14
  have R14 := Lib.hid hr14
  have HM4 := Lib.hid (show posL ys i + (posL ys (k + 1) - posL ys k) + (j.length - posL ys (i + 1)) = ((([] : List UInt8) ++ j.take (posL ys i)) ++ (j.drop (posL ys k)).take (posL ys (k + 1) - posL ys k)).length + (j.drop (posL ys (i + 1))).length by rw [List.length_append, ← HM3.out, ← HL2.out])
  clear hr14
  go_wp2_with (at_builtin; refine wp_stop ?_)
  unfold wpStop
  refine wpList_app RB_good Try.sty22 OWN13.out R14.out (.inr fun _ _ _ _ h => h) rfl rfl rfl (m := posL ys i + (posL ys (k + 1) - posL ys k) + (j.length - posL ys (i + 1))) rfl HL2.out ?_ ?_ ?_ ?_
  · exact HM4.out
  · omega
  · exact K13.out.size
  intro A15 c15 w15 own15 hc15 hm15 hk15 hb15
  have K15 := Lib.hid (K13.out.through hk15 OWN13.out (Nat.le_refl _))
  have hrec := hmov.out i k (j.drop (posL ys (i + 1))) hil hkl HIK.out
  obtain ⟨A', c', hv15, h151, h152, h153⟩ := own15.rd (S := All) RB_good (fun _ _ _ => trivial)
  rw [List.nil_append] at hv15 h151 h153
  injection hv15 with e1 hlen15 e2
  subst e1; subst e2
  have HREC2 := Lib.hid hrec
  have HR15 := Lib.hid h153
  have HC15 := Lib.hid h151
  have HM15 := Lib.hid h152
  have HLN15 := Lib.hid hlen15
  have hl15 : posL ys i + (posL ys (k + 1) - posL ys k) + (j.length - posL ys (i + 1)) ≤ 600 := by omega
  clear h151 h152 h153 hlen15 hrec own15 hc15 hm15 hk15 hb15
  go_wp2_with fail
  refine (records21_n _ _ c15 _ w15 HR15.out (by rw [← HLN15.out]; omega) HLN15.out (by rw [HLN15.out]; exact HC15.out) HM15.out).mono ?_
  rw [HREC2.out]
  rintro e w16 ⟨A16, c16, rfl, h161, h162, h163, hk16⟩
  simp only [HLT.out] at h161 ⊢
  have K16 := Lib.hid (K15.out.trans hk16)
  have HR16 := Lib.hid (h163.mono RBs_good (S' := All) fun _ _ _ => trivial)
  have HX16 := Lib.hid ((HX6.out.kept RBs_good (K11.out.trans K16.out)).pre i)
  have ei := K16.out.cell di trivial
  have n3 : ((posL ys i : Int) == (posL ys i : Int)) = true := by rw [beq_iff_eq]
  clear h161 h162 h163 hk16
  go_wp2_with fail
  refine (same_any A16 A4 i i c16 c4 (ys.take i) (ys.take i) w16 HR16.out HX16.out HLT.out.symm HLT.out.symm (by rw [HLT.out]; omega) (by rw [HLT.out]; omega)).mono ?_
  rintro e w17 ⟨rfl, hk17⟩
  have hd2 : decide (ys.take i = ys.take i) = true := decide_eq_true rfl
  rw [hd2]
  have K17 := Lib.hid (K16.out.trans hk17)
  clear hk17 hd2
  go_wp2_with fail
  refine (awake_any w17).mono ?_
  rintro e w18 ⟨rfl, hk18⟩
  have K18 := Lib.hid (K6.out.trans (K11.out.trans (K17.out.trans hk18)))
  clear hk18
  go_wp2_with fail
  go_ret
  exact ⟨rfl, K18.out⟩
end Go.Proofs.Ytnedeajebhbjbaa
