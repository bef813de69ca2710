import Derived.Test.YtnedeajebhbjbaaNum
namespace Go.Proofs.Ytnedeajebhbjbaa
open Go.RowKit

def frameL (i : Int) (l : List UInt8) : List UInt8 :=
  [UInt8.ofNat (l.length / 256), UInt8.ofNat l.length, ~~~ UInt8.ofNat (l.length / 256), ~~~ UInt8.ofNat l.length] ++ l ++ fourL (chk i l)
theorem frameL_len (i : Int) (l : List UInt8) : (frameL i l).length = l.length + 8 := by simp [frameL, fourL]
def frameR (i : Int) (l : List UInt8) : List UInt8 × Int :=
  if i < 0 ∨ 4194304 < i then ([], 1) else if 4096 < l.length then ([], 2) else (frameL i l, 0)

def RetBE (w : World) (r : List UInt8 × Int) (e : Ending) (w' : World) : Prop :=
  ∃ A c, e = .returned (.tuple #[.slice A r.1.length c, .int .i64 r.2]) ∧ r.1.length ≤ c ∧ c ≤ maxLen ∧ RdL RB 1 (Fr w) w' A r.1 ∧ Kept All w w'
theorem RetBE.fail (w w' : World) (r : Int) (h : Kept All w w') : RetBE w ([], r) (.returned (.tuple #[.slice none 0 0, .int .i64 r])) w' :=
  ⟨none, 0, rfl, Nat.le_refl _, by unfold maxLen; omega, RdL.nil, h⟩

theorem w_nat8 (n : Nat) : (n : Int) % 256 = ((UInt8.ofNat n).toNat : Int) := by simp
def hdrL (n : Nat) : List UInt8 := [UInt8.ofNat (n / 256), UInt8.ofNat n, ~~~ UInt8.ofNat (n / 256), ~~~ UInt8.ofNat n]
theorem hdr_cells (n : Nat) (h : n ≤ 4096) : (#[.int .u8 ((n : Int) / 256), .int .u8 ((n : Int) % 256), .int .u8 (bits .xor .u8 IntKind.u8.max ((n : Int) / 256)), .int .u8 (bits .xor .u8 IntKind.u8.max ((n : Int) % 256))] : Array Value) =
    ((hdrL n).map u8v).toArray := by
  have e1 : (n : Int) / 256 = ((UInt8.ofNat (n / 256)).toNat : Int) := by simp; omega
  rw [e1, w_nat8, w_not8, w_not8]; rfl
theorem hdr_own (n : Nat) (h : n ≤ 4096) (w : World) : Own RB 1 5 w.heap.size All (w.alloc (.cells #[.int .u8 ((n : Int) / 256), .int .u8 ((n : Int) % 256), .int .u8 (bits .xor .u8 IntKind.u8.max ((n : Int) / 256)), .int .u8 (bits .xor .u8 IntKind.u8.max ((n : Int) % 256))] 5)) (.slice (some ⟨w.heap.size, 0, none⟩) 4 4) (hdrL n) := by
  rw [hdr_cells n h]
  exact Own.lit w _ (hdrL n) (Enc.flat1 _) RB_good (by unfold maxLen; simp [hdrL])
/-- The end of Frame. -/
theorem frame_end {w w2 w4 w5 : World} {i : Int} {l : List UInt8} {v : Value} (hk : Kept All w w4) (hown : Own RB 1 5 w.heap.size All w5 v (hdrL l.length ++ l ++ fourL (chk i l))) (hk5 : Kept All w w5) :
    ∃ A c, v = .slice A (l.length + 8) c ∧ RetBE w (frameL i l, 0) (.returned (.tuple #[.slice A (l.length + 8) c, .int .i64 0])) w5 := by
  obtain ⟨A, c, hv, h1, h2, h3⟩ := hown.rd (S := Fr w) RB_good (fun k hk _ => hk)
  have e : (hdrL l.length ++ l ++ fourL (chk i l)).length = l.length + 8 := by simp [hdrL, fourL]
  rw [e] at hv h1
  refine ⟨A, c, hv, A, c, ?_, ?_, h2, h3, hk5⟩
  · rw [show (frameL i l).length = l.length + 8 from frameL_len i l]
  · show (frameL i l).length ≤ c
    rw [frameL_len]; exact h1
set_option maxRecDepth 100000 in
theorem frame16_any (i : Int) (A : Option Addr) (c : Nat) (l : List UInt8) (w : World) (hr : RdL RB 1 All w A l) (hl : l.length ≤ 5000000) (hi : i64ok i) :
    Calls Try.prog 16 #[.int .i64 i, .slice A l.length c] w (RetBE w (frameR i l)) := by
  obtain ⟨hi1, hi2⟩ := hi
  have hr' := Lib.hid hr
  clear hr
  by_cases h0 : i < 0
  · have fin := RetBE.fail w w 1 (Kept.refl _ _)
    have e : frameR i l = ([], 1) := by rw [frameR, if_pos (.inl h0)]
    rw [← e] at fin
    have FIN := Lib.hid fin
    clear fin e
    go_enter Try.func16, Try.ntmps16
    go_wp2_with fail
    go_ret2
    exact FIN.out
  by_cases h1 : 4194304 < i
  · have fin := RetBE.fail w w 1 (Kept.refl _ _)
    have e : frameR i l = ([], 1) := by rw [frameR, if_pos (.inr h1)]
    rw [← e] at fin
    have FIN := Lib.hid fin
    clear fin e
    go_enter Try.func16, Try.ntmps16
    go_wp2_with fail
    go_ret2
    exact FIN.out
  by_cases h2 : 4096 < l.length
  · have fin := RetBE.fail w w 2 (Kept.refl _ _)
    have e : frameR i l = ([], 2) := by rw [frameR, if_neg (by omega), if_pos h2]
    rw [← e] at fin
    have FIN := Lib.hid fin
    clear fin e
    go_enter Try.func16, Try.ntmps16
    go_wp2_with fail
    go_ret2
    exact FIN.out
  have e : frameR i l = (frameL i l, 0) := by rw [frameR, if_neg (by omega), if_neg h2]
  rw [e]
  clear e
  go_enter Try.func16, Try.ntmps16
  have own0 := Lib.hid (hdr_own l.length (by omega) w)
  go_wp2_with (at_builtin; refine wp_stop ?_)
  unfold wpStop
  refine wpList_app RB_good Try.sty22 own0.out (hr'.out.kept RB_good ((Kept.refl _ _).alloc _)) (.inr fun _ _ _ _ h => h) rfl rfl rfl (m := l.length + 4) rfl rfl ?_ ?_ ?_ ?_
  · simp [hdrL]; omega
  · omega
  · simp
  intro A1 c1 w1 own1 hc1 hm1 hk1 hb1
  have kw := ((Kept.refl All w).alloc (.cells #[.int .u8 ((l.length : Int) / 256), .int .u8 ((l.length : Int) % 256), .int .u8 (bits .xor .u8 IntKind.u8.max ((l.length : Int) / 256)), .int .u8 (bits .xor .u8 IntKind.u8.max ((l.length : Int) % 256))] 5)).through hk1 own0.out (Nat.le_refl _)
  have KW1 := Lib.hid kw
  have OWN1 := Lib.hid own1
  clear kw own1 hk1 hb1 own0
  go_wp2_with fail
  refine (check14_any i A c l w1 (hr'.out.kept RB_good KW1.out) hl).mono ?_
  rintro e w2 ⟨rfl, hk2⟩
  have OWN2 := Lib.hid (OWN1.out.keptAll RB_good hk2)
  have KW2 := Lib.hid (KW1.out.trans hk2)
  clear hk2 OWN1 KW1
  go_wp2_with fail
  refine (four34_any _ w2).mono ?_
  rintro e w3 ⟨A3, c3, rfl, -, -, hr3, hk3⟩
  have OWN3 := Lib.hid (OWN2.out.keptAll RB_good hk3)
  have KW3 := Lib.hid (KW2.out.trans hk3)
  have HR3 := Lib.hid hr3
  clear hk3 hr3 OWN2 KW2
  go_wp2_with (at_builtin; refine wp_stop ?_)
  unfold wpStop
  refine wpList_app RB_good Try.sty22 OWN3.out HR3.out (.inr fun _ _ _ _ h => h) rfl rfl rfl (m := l.length + 8) rfl rfl ?_ ?_ ?_ ?_
  · simp [hdrL, fourL]
  · omega
  · exact KW3.out.size
  intro A4 c4 w4 own4 hc4 hm4 hk4 hb4
  have KW4 := Lib.hid (KW3.out.through hk4 OWN3.out (Nat.le_refl _))
  have OWN4 := Lib.hid own4
  clear own4 hk4 hb4
  go_wp2_with fail
  go_ret2
  obtain ⟨A', c', hv, hfin⟩ := frame_end (i := i) (w2 := w2) (w4 := w4) KW4.out OWN4.out KW4.out
  injection hv with h1 _ h2
  subst h1; subst h2
  exact hfin
set_option maxRecDepth 100000 in
theorem frame17_any (i : Int) (A : Option Addr) (c : Nat) (l : List UInt8) (w : World) (hr : RdL RB 1 All w A l) (hl : l.length ≤ 5000000) (hi : i64ok i) :
    Calls Try.prog 17 #[.int .i64 i, .slice A l.length c] w (RetBE w (frameR i l)) := by
  obtain ⟨hi1, hi2⟩ := hi
  have hr' := Lib.hid hr
  clear hr
  by_cases h0 : i < 0
  · have fin := RetBE.fail w w 1 (Kept.refl _ _)
    have e : frameR i l = ([], 1) := by rw [frameR, if_pos (.inl h0)]
    rw [← e] at fin
    have FIN := Lib.hid fin
    clear fin e
    go_enter Try.func17, Try.ntmps17
    go_wp2_with fail
    go_ret2
    exact FIN.out
  by_cases h1 : 4194304 < i
  · have fin := RetBE.fail w w 1 (Kept.refl _ _)
    have e : frameR i l = ([], 1) := by rw [frameR, if_pos (.inr h1)]
    rw [← e] at fin
    have FIN := Lib.hid fin
    clear fin e
    go_enter Try.func17, Try.ntmps17
    go_wp2_with fail
    go_ret2
    exact FIN.out
  by_cases h2 : 4096 < l.length
  · have fin := RetBE.fail w w 2 (Kept.refl _ _)
    have e : frameR i l = ([], 2) := by rw [frameR, if_neg (by omega), if_pos h2]
    rw [← e] at fin
    have FIN := Lib.hid fin
    clear fin e
    go_enter Try.func17, Try.ntmps17
    go_wp2_with fail
    go_ret2
    exact FIN.out
  have e : frameR i l = (frameL i l, 0) := by rw [frameR, if_neg (by omega), if_neg h2]
  rw [e]
  clear e
  go_enter Try.func17, Try.ntmps17
  have own0 := Lib.hid (hdr_own l.length (by omega) w)
  go_wp2_with (at_builtin; refine wp_stop ?_)
  unfold wpStop
  refine wpList_app RB_good Try.sty22 own0.out (hr'.out.kept RB_good ((Kept.refl _ _).alloc _)) (.inr fun _ _ _ _ h => h) rfl rfl rfl (m := l.length + 4) rfl rfl ?_ ?_ ?_ ?_
  · simp [hdrL]; omega
  · omega
  · simp
  intro A1 c1 w1 own1 hc1 hm1 hk1 hb1
  have kw := ((Kept.refl All w).alloc (.cells #[.int .u8 ((l.length : Int) / 256), .int .u8 ((l.length : Int) % 256), .int .u8 (bits .xor .u8 IntKind.u8.max ((l.length : Int) / 256)), .int .u8 (bits .xor .u8 IntKind.u8.max ((l.length : Int) % 256))] 5)).through hk1 own0.out (Nat.le_refl _)
  have KW1 := Lib.hid kw
  have OWN1 := Lib.hid own1
  clear kw own1 hk1 hb1 own0
  go_wp2_with fail
  refine (check15_any i A c l w1 (hr'.out.kept RB_good KW1.out) hl).mono ?_
  rintro e w2 ⟨rfl, hk2⟩
  have OWN2 := Lib.hid (OWN1.out.keptAll RB_good hk2)
  have KW2 := Lib.hid (KW1.out.trans hk2)
  clear hk2 OWN1 KW1
  go_wp2_with fail
  refine (four32_any _ w2).mono ?_
  rintro e w3 ⟨A3, c3, rfl, -, -, hr3, hk3⟩
  have OWN3 := Lib.hid (OWN2.out.keptAll RB_good hk3)
  have KW3 := Lib.hid (KW2.out.trans hk3)
  have HR3 := Lib.hid hr3
  clear hk3 hr3 OWN2 KW2
  go_wp2_with (at_builtin; refine wp_stop ?_)
  unfold wpStop
  refine wpList_app RB_good Try.sty22 OWN3.out HR3.out (.inr fun _ _ _ _ h => h) rfl rfl rfl (m := l.length + 8) rfl rfl ?_ ?_ ?_ ?_
  · simp [hdrL, fourL]
  · omega
  · exact KW3.out.size
  intro A4 c4 w4 own4 hc4 hm4 hk4 hb4
  have KW4 := Lib.hid (KW3.out.through hk4 OWN3.out (Nat.le_refl _))
  have OWN4 := Lib.hid own4
  clear own4 hk4 hb4
  go_wp2_with fail
  go_ret2
  obtain ⟨A', c', hv, hfin⟩ := frame_end (i := i) (w2 := w2) (w4 := w4) KW4.out OWN4.out KW4.out
  injection hv with h1 _ h2
  subst h1; subst h2
  exact hfin
end Go.Proofs.Ytnedeajebhbjbaa
