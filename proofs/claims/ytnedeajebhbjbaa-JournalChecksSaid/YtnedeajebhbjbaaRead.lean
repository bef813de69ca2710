import Derived.Test.YtnedeajebhbjbaaRd
namespace Go.Proofs.Ytnedeajebhbjbaa
open Go.RowKit

def ReadTo (w : World) (r : Option (List UInt8)) (e : Ending) (w' : World) : Prop :=
  match r with
  | none => e = .returned (.tuple #[.slice none 0 0, .int .i64 0, .bool false]) ∧ Kept All w w'
  | some l => ∃ A c, e = .returned (.tuple #[.slice A l.length c, .int .i64 (l.length + 8 : Nat), .bool true]) ∧ l.length ≤ c ∧ c ≤ maxLen ∧ RdL RB 1 (Fr w) w' A l ∧ Kept All w w'
theorem ReadTo.fail {w w' : World} {i : Int} {l : List UInt8} (h : firstL i l = none) (hk : Kept All w w') : ReadTo w (firstL i l) (.returned (.tuple #[.slice none 0 0, .int .i64 0, .bool false])) w' := by
  rw [h]; exact ⟨rfl, hk⟩
theorem check15_n (i : Int) (A : Option Addr) (n c : Nat) (l : List UInt8) (w : World) (hr : RdL RB 1 All w A l) (hl : l.length ≤ 5000000) (hn : n = l.length) :
    Calls Try.prog 15 #[.int .i64 i, .slice A n c] w (RetU w (chk i l)) := by
  subst hn; exact check15_any i A c l w hr hl
theorem four_len (n : UInt32) : (fourL n).length = 4 := rfl
theorem u8_ne (x y : UInt8) : ((x.toNat : Int) != (y.toNat : Int)) = decide (x ≠ y) := by
  rw [Bool.eq_iff_iff, bne_iff_ne, decide_eq_true_eq]
  exact not_congr ⟨fun h => UInt8.toNat_inj.1 (by exact_mod_cast h), fun h => by rw [h]⟩

set_option maxRecDepth 100000 in
set_option maxHeartbeats 1000000 in
theorem read_main (i : Int) (g o n c : Nat) (l : List UInt8) (x0 x1 x2 x3 : UInt8) (w : World) (hl : l.length ≤ 5000000) (hc : l.length ≤ c) (hm : c ≤ 2 ^ 63 - 1)
    (hd : decide ((l.length : Int) < 8) = false)
    (c0 : w.cell? ⟨g, o, none⟩ = some (.int .u8 (x0.toNat : Int))) (c1 : w.cell? ⟨g, o + 1, none⟩ = some (.int .u8 (x1.toNat : Int))) (c2 : w.cell? ⟨g, o + 2, none⟩ = some (.int .u8 (x2.toNat : Int))) (c3 : w.cell? ⟨g, o + 3, none⟩ = some (.int .u8 (x3.toNat : Int)))
    (t1 : ((x0.toNat : Int) != bits .xor .u8 IntKind.u8.max (x2.toNat : Int)) = false) (t2 : ((x1.toNat : Int) != bits .xor .u8 IntKind.u8.max (x3.toNat : Int)) = false)
    (hor : bits .or .i64 ((x0.toNat : Int) * 256) (x1.toNat : Int) = (n : Int)) (h3 : n ≤ 4096) (h4 : n + 8 ≤ l.length)
    (HREC : Hid (RdL RB 1 All w (some ⟨g, o + 4, none⟩) (recL l n))) (HTAIL : Hid (RdL RB 1 All w (some ⟨g, o + (4 + n), none⟩) (tailL l n))) (HRL : Hid (n = (recL l n).length)) (HTL : Hid (4 = (tailL l n).length))
    (KEY : Hid (firstL i l = if tailL l n = fourL (chk i (recL l n)) then some (recL l n) else none)) :
    Calls Try.prog 36 #[.int .i64 i, .slice (some ⟨g, o, none⟩) l.length c] w (ReadTo w (firstL i l)) := by
  have p0 : 0 < l.length := by omega
  have p1 : (1 : Int) < (l.length : Int) := by omega
  have p2 : (2 : Int) < (l.length : Int) := by omega
  have p3 : (3 : Int) < (l.length : Int) := by omega
  have hsg : IntKind.u8.signed = false := rfl
  have l0 := u8_lt x0
  have l1 := u8_lt x1
  go_enter Try.func36, Try.ntmps36
  go_wp2
  go_quiet (fail)
  go_wp2
  go_quiet (fail)
  clear hd t1 t2 c0 c1 c2 c3 hor hsg l0 l1
  go_wp2_with fail
  have hrl := HRL.out
  refine (check15_n i _ _ _ (recL l n) _ ?_ (by omega) (by omega)).mono ?_
  · exact HREC.out
  clear hrl
  rintro e w1 ⟨rfl, hk1⟩
  have K1 := Lib.hid (show Kept All w w1 from hk1.of_drewN)
  clear hk1
  go_wp2_with fail
  refine (four32_any _ _).mono ?_
  rintro e w2 ⟨A2, c2, rfl, -, -, hr2, hk2⟩
  rw [four_len]
  have K2 := Lib.hid (K1.out.trans hk2)
  have R2 := Lib.hid (hr2.mono RB_good (S' := All) fun _ _ _ => trivial)
  clear hk2 hr2 K1
  have T2 := Lib.hid (HTAIL.out.kept RB_good K2.out)
  have F2 := Lib.hid (show (fourL (chk i (recL l n))).length = 4 from rfl)
  go_wp2_with fail
  go_loopw [9] (fun x wr => ∃ k m : Nat, k ≤ 4 ∧ x = .int .i64 k ∧ wr = w2.drewN m ∧ ∀ j, j < k → (tailL l n)[j]? = (fourL (chk i (recL l n)))[j]?) (fun x _ => 4 - (intOf x).toNat)
  case atStart => exact ⟨0, 0, by omega, rfl, rfl, fun j hj => absurd hj (by omega)⟩
  case round =>
    obtain ⟨k, m, hk, rfl, rfl, heq⟩ := hrel
    have HEQ := Lib.hid heq
    clear heq
    have htl := HTL.out
    by_cases hlt : k < 4
    · obtain ⟨g1, o1, e1, -, hc1⟩ := byte_at T2.out (k := k) (by omega)
      injection e1 with e1; injection e1 with e1 e2; subst e1; subst e2
      obtain ⟨g2, o2, rfl, -, hc2⟩ := byte_at R2.out (k := k) (by rw [F2.out]; exact hlt)
      have hx1 : (tailL l n)[k]? = some (tailL l n)[k] := List.getElem?_eq_getElem (by omega)
      have hx2 : (fourL (chk i (recL l n)))[k]? = some (fourL (chk i (recL l n)))[k] := List.getElem?_eq_getElem (by rw [F2.out]; exact hlt)
      generalize (tailL l n)[k] = y1 at *
      generalize (fourL (chk i (recL l n)))[k] = y2 at *
      have X1 := Lib.hid hx1
      have X2 := Lib.hid hx2
      have te := u8_ne y1 y2
      clear hx1 hx2 htl
      rw [Nat.add_assoc] at hc1
      have q1 : IntKind.i64.wrap (4 + (n : Int)) = 4 + (n : Int) := IntWalk.i64_in _ (by omega)
      have q2 : IntKind.i64.wrap (4 + (n : Int) + (k : Int)) = 4 + (n : Int) + (k : Int) := IntWalk.i64_in _ (by omega)
      have q3 : (4 : Int) + (n : Int) + (k : Int) < (l.length : Int) := by omega
      have q4 : (0 : Int) ≤ 4 + (n : Int) + (k : Int) := by omega
      have q5 : (4 + (n : Int) + (k : Int)).toNat = 4 + n + k := by omega
      by_cases hy : y1 = y2
      · rw [decide_eq_false (by simpa using hy)] at te
        go_wp2
        go_quiet (fail)
        go_wp2
        refine ⟨⟨k + 1, m + nq, by omega, by go_num, rfl, fun j hj => ?_⟩, by simp [intOf]; omega⟩
        by_cases he : j = k
        · rw [he, X1.out, X2.out, hy]
        · exact HEQ.out j (by omega)
      · rw [decide_eq_true hy] at te
        have hn1 : firstL i l = none := by
          rw [KEY.out, if_neg]
          intro h
          have := X1.out
          rw [h, X2.out] at this
          injection this with this
          exact hy this.symm
        have FIN := Lib.hid (fun nq => ReadTo.fail (w := w) hn1 ((K2.out.drewN m).drewN nq))
        clear hn1
        go_wp2
        go_quiet (fail)
        go_wp2
        go_ret3
        exact FIN.out _
    · obtain rfl : k = 4 := by omega
      have heq : tailL l n = fourL (chk i (recL l n)) := by
        apply List.ext_getElem?
        intro j
        by_cases hj : j < 4
        · exact HEQ.out j hj
        · have := F2.out
          rw [List.getElem?_eq_none (by omega), List.getElem?_eq_none (by omega)]
      have hk : firstL i l = some (recL l n) := by rw [KEY.out, if_pos heq]
      have HK := Lib.hid hk
      clear hk heq htl HEQ
      have own0 := Lib.hid (Own.lit (S := All) (e := 5) (w2.drewN m) [] ([] : List UInt8) (R := RB) (sz := 1) Enc.nil RB_good (by unfold maxLen; simp))
      have RC := Lib.hid (HREC.out.kept RB_good ((K2.out.drewN m).alloc (.cells #[] 5)))
      go_wp2_with (at_builtin; refine wp_stop ?_)
      unfold wpStop
      refine wpList_app RB_good Try.sty22 own0.out RC.out (.inr fun _ _ _ _ h => h) rfl rfl rfl (m := n) rfl ?_ ?_ ?_ ?_ ?_
      · have := HRL.out; omega
      · have := HRL.out; simpa using this
      · omega
      · simp
      intro A4 c4 w4 own4 hc4 hm4 hk4 hb4
      have kw := ((K2.out.drewN m).alloc (.cells #[] 5)).through hk4 own0.out K2.out.size
      have KW4 := Lib.hid kw
      have OWN4 := Lib.hid own4
      clear own4 hk4 hb4 kw
      go_wp2_with fail
      go_ret3
      obtain ⟨A', c', hv, h5, h6, h7⟩ := OWN4.out.rd (S := Fr w) RB_good (fun k hk _ => Nat.le_trans K2.out.size hk)
      have hlen := HRL.out
      rw [List.nil_append, ← hlen] at hv h5
      injection hv with h1 _ h2
      subst h1; subst h2
      rw [HK.out]
      refine ⟨A4, c4, ?_, by omega, h6, h7, KW4.out⟩
      rw [← hlen]
      rfl
set_option maxRecDepth 100000 in
theorem read_any (i : Int) (A : Option Addr) (c : Nat) (l : List UInt8) (w : World) (hr : RdL RB 1 All w A l) (hl : l.length ≤ 5000000) (hc : l.length ≤ c) (hm : c ≤ maxLen) (hi : i64ok i) :
    Calls Try.prog 36 #[.int .i64 i, .slice A l.length c] w (ReadTo w (firstL i l)) := by
  unfold maxLen at hm
  by_cases h0 : l.length < 8
  · have FIN := Lib.hid (fun n => ReadTo.fail (w := w) (w' := w.drewN n) (i := i) (l := l) (by rw [firstL, if_pos h0]) ((Kept.refl _ _).drewN _))
    have hd : decide ((l.length : Int) < 8) = true := by simp; omega
    clear hr
    go_enter Try.func36, Try.ntmps36
    go_wp2
    go_quiet (fail)
    go_wp2
    go_ret3
    exact FIN.out _
  have hd : decide ((l.length : Int) < 8) = false := by simp; omega
  have hr' := Lib.hid hr
  obtain ⟨g, o, rfl, -, hcc⟩ := hr.to_map (by simp; omega)
  have hb : ∀ j, j < l.length → w.cell? ⟨g, o + j, none⟩ = some (.int .u8 ((l.getD j 0).toNat : Int)) := fun j hj => by
    refine (hcc j (u8v l[j]) (by simp [hj])).trans ?_
    simp [u8v, hj]
  have hb' := Lib.hid hb
  have c0 := hb 0 (by omega)
  have c1 := hb 1 (by omega)
  have c2 := hb 2 (by omega)
  have c3 := hb 3 (by omega)
  rw [Nat.add_zero] at c0
  clear hb hcc hr
  have p0 : 0 < l.length := by omega
  have p1 : (1 : Int) < (l.length : Int) := by omega
  have p2 : (2 : Int) < (l.length : Int) := by omega
  have p3 : (3 : Int) < (l.length : Int) := by omega
  have hsg : IntKind.u8.signed = false := rfl
  have l0 := u8_lt (l.getD 0 0)
  have l1 := u8_lt (l.getD 1 0)
  have tne : ∀ x y : UInt8, ((x.toNat : Int) != bits .xor .u8 IntKind.u8.max (y.toNat : Int)) = decide (x ≠ ~~~ y) := fun x y => by
    rw [w_not8, Bool.eq_iff_iff, bne_iff_ne, decide_eq_true_eq]
    exact not_congr ⟨fun h => UInt8.toNat_inj.1 (by exact_mod_cast h), fun h => by rw [h]⟩
  have t1 := tne (l.getD 0 0) (l.getD 2 0)
  have t2 := tne (l.getD 1 0) (l.getD 3 0)
  clear tne
  by_cases h1 : l.getD 0 0 ≠ ~~~ l.getD 2 0
  · have FIN := Lib.hid (fun n => ReadTo.fail (w := w) (w' := w.drewN n) (i := i) (l := l) (by rw [firstL, if_neg h0, if_pos h1]) ((Kept.refl _ _).drewN _))
    rw [decide_eq_true h1] at t1
    clear h1 t2
    generalize l.getD 0 0 = x0 at *
    generalize l.getD 1 0 = x1 at *
    generalize l.getD 2 0 = x2 at *
    generalize l.getD 3 0 = x3 at *
    go_enter Try.func36, Try.ntmps36
    go_wp2
    go_quiet (fail)
    go_wp2
    go_ret3
    exact FIN.out _
  rw [decide_eq_false h1] at t1
  by_cases h2 : l.getD 1 0 ≠ ~~~ l.getD 3 0
  · have FIN := Lib.hid (fun n => ReadTo.fail (w := w) (w' := w.drewN n) (i := i) (l := l) (by rw [firstL, if_neg h0, if_neg h1, if_pos h2]) ((Kept.refl _ _).drewN _))
    rw [decide_eq_true h2] at t2
    clear h1 h2
    generalize l.getD 0 0 = x0 at *
    generalize l.getD 1 0 = x1 at *
    generalize l.getD 2 0 = x2 at *
    generalize l.getD 3 0 = x3 at *
    go_enter Try.func36, Try.ntmps36
    go_wp2
    go_quiet (fail)
    go_wp2
    go_ret3
    exact FIN.out _
  rw [decide_eq_false h2] at t2
  have hlen : lenL l = (l.getD 0 0).toNat * 256 + (l.getD 1 0).toNat := rfl
  have hor := or_len (l.getD 0 0) (l.getD 1 0)
  rw [← hlen] at hor
  have hn6 : lenL l < 65536 := by omega
  have key : firstL i l = if 4096 < lenL l then none else if l.length < lenL l + 8 then none else if tailL l (lenL l) = fourL (chk i (recL l (lenL l))) then some (recL l (lenL l)) else none := by
    rw [firstL, if_neg h0, if_neg h1, if_neg h2]
  have KEY := Lib.hid key
  clear h1 h2 hlen key
  generalize l.getD 0 0 = x0 at *
  generalize l.getD 1 0 = x1 at *
  generalize l.getD 2 0 = x2 at *
  generalize l.getD 3 0 = x3 at *
  by_cases h3 : 4096 < lenL l
  · have FIN := Lib.hid (fun n => ReadTo.fail (w := w) (w' := w.drewN n) (i := i) (l := l) (by rw [KEY.out, if_pos h3]) ((Kept.refl _ _).drewN _))
    go_enter Try.func36, Try.ntmps36
    go_wp2
    go_quiet (fail)
    go_wp2
    go_quiet (fail)
    go_wp2
    go_ret3
    exact FIN.out _
  by_cases h4 : l.length < lenL l + 8
  · have FIN := Lib.hid (fun n => ReadTo.fail (w := w) (w' := w.drewN n) (i := i) (l := l) (by rw [KEY.out, if_neg h3, if_pos h4]) ((Kept.refl _ _).drewN _))
    go_enter Try.func36, Try.ntmps36
    go_wp2
    go_quiet (fail)
    go_wp2
    go_quiet (fail)
    go_wp2
    go_ret3
    exact FIN.out _
  have key := KEY.out
  rw [if_neg h3, if_neg h4] at key
  clear KEY
  have KEY := Lib.hid key
  clear key
  generalize lenL l = n at *
  have hrec : RdL RB 1 All w (some ⟨g, o + 4, none⟩) (recL l n) := hr'.out.part 4 n _ (fun g' o' e _ => by
    injection e with e; injection e with e1 e2; subst e1; subst e2; rfl)
  have htail : RdL RB 1 All w (some ⟨g, o + (4 + n), none⟩) (tailL l n) := hr'.out.part (4 + n) 4 _ (fun g' o' e _ => by
    injection e with e; injection e with e1 e2; subst e1; subst e2; simp)
  have hrl : n = (recL l n).length := by rw [recL, List.length_take, List.length_drop]; omega
  have htl : 4 = (tailL l n).length := by rw [tailL, List.length_take, List.length_drop]; omega
  have HREC := Lib.hid hrec
  have HTAIL := Lib.hid htail
  have HRL := Lib.hid hrl
  have HTL := Lib.hid htl
  clear hrec htail hrl htl
  exact read_main i g o n c l x0 x1 x2 x3 w hl hc hm hd c0 c1 c2 c3 t1 t2 hor (by omega) (by omega) HREC HTAIL HRL HTL KEY
end Go.Proofs.Ytnedeajebhbjbaa
