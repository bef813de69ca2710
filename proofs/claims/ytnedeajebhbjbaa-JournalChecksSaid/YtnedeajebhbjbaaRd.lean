import Derived.Test.YtnedeajebhbjbaaFrm
import Derived.Laws.BytesArg
import Derived.Lib.Bytes
namespace Go.Proofs.Ytnedeajebhbjbaa
open Go.RowKit

def bs (l : List UInt8) : ByteArray := ⟨l.toArray⟩
theorem bs_inj {a b : List UInt8} (h : bs a = bs b) : a = b := by
  have h1 := congrArg ByteArray.data h
  simpa [bs] using h1
theorem bs_eq (a b : List UInt8) : (bs a == bs b) = decide (a = b) := by
  have h : (bs a == bs b) = (a.toArray == b.toArray) := rfl
  rw [h, Bool.eq_iff_iff, beq_iff_eq]
  simp
theorem bs_ne (a b : List UInt8) : (bs a != bs b) = decide (a ≠ b) := by
  rw [bne, bs_eq]; by_cases h : a = b <;> simp [h]
theorem str_bytes {P : Program} {S : Nat → Prop} {w : World} {A : Option Addr} {xs : List UInt8} (h : RdL RB 1 S w A xs) {t e d : TypeId} (ht : P.underlying t = some (.slice e)) (he : P.underlying e = some (.int .u8)) (hd : P.underlying d = some .string) {n : Nat} (hn : n = xs.length) (c : Nat) :
    (convert t d (.slice A n c)).run P w = .ok (.string (bs xs)) w := by
  subst hn
  have h' := h.to_map
  by_cases h0 : xs.length = 0
  · have : xs = [] := List.eq_nil_of_length_eq_zero h0
    subst this
    rw [run_convert_bytes_string w t d e _ _ c ht he hd]
    cases A with
    | none => simp [Conv.bytesToString, bs]; rfl
    | some ad => simp [Conv.bytesToString, loadCells, loadCellsFrom, bs]; rfl
  · obtain ⟨g, o, rfl, hs, hc⟩ := h' (by simp; omega)
    have := run_convert_bytes_arg (P := P) w t e ht he g o xs.length c (xs.map fun x => (x.toNat : Int)) (by simp) (fun i hi => by
      refine (hc i (u8v xs[i]) (by simp [hi])).trans ?_
      simp [u8v, hi]) d hd
    rw [this]
    have e1 : strOfNums (xs.map fun x => (x.toNat : Int)) = bs xs := by
      apply ByteArray.ext
      have := Lib.strOfNums_toList (xs.map fun x => (x.toNat : Int))
      rw [Lib.toList_data, Lib.bytesOf, List.map_map] at this
      have e2 : (xs.map ((fun n : Int => UInt8.ofNat n.toNat) ∘ fun x => (x.toNat : Int))) = xs := by
        conv => rhs; rw [← List.map_id xs]
        apply List.map_congr_left
        intro x _
        simp
      rw [e2] at this
      exact Array.toList_inj.1 (by rw [this]; rfl)
    rw [e1]

theorem under22 : Try.prog.underlying 22 = some (.slice 5) := by kernel_rfl
theorem under5 : Try.prog.underlying 5 = some (.int .u8) := by kernel_rfl
theorem under9 : Try.prog.underlying 9 = some .string := by kernel_rfl
theorem conv22 {S : Nat → Prop} {w : World} {A : Option Addr} {xs : List UInt8} (h : RdL RB 1 S w A xs) {n : Nat} (hn : n = xs.length) (c : Nat) :
    (convert 22 9 (.slice A n c)).run Try.prog w = .ok (.string (bs xs)) w := str_bytes h under22 under5 under9 hn c

theorem bs_toList (a : List UInt8) : (bs a).toList = a := by rw [Lib.toList_data]; rfl
theorem equal_any (A A' : Option Addr) (c c' : Nat) (xs ys : List UInt8) (w : World) (h : RdL RB 1 All w A xs) (h' : RdL RB 1 All w A' ys) {n n' : Nat} (hn : n = xs.length) (hn' : n' = ys.length) :
    Calls Try.prog 38 #[.slice A n c, .slice A' n' c'] w fun e w' => e = .returned (.bool (xs == ys)) ∧ w = w' := by
  subst hn
  subst hn'
  have h1 := conv22 h rfl c
  have h2 := conv22 h' rfl c'
  have hb := bs_toList
  go_enter Try.func38, Try.ntmps38
  go_wp2
  go_ret
  exact ⟨rfl, rfl⟩

def tailL (b : List UInt8) (n : Nat) : List UInt8 := (b.drop (4 + n)).take 4
def recL (b : List UInt8) (n : Nat) : List UInt8 := (b.drop 4).take n
def lenL (b : List UInt8) : Nat := (b.getD 0 0).toNat * 256 + (b.getD 1 0).toNat
def firstL (i : Int) (b : List UInt8) : Option (List UInt8) :=
  if b.length < 8 then none
  else if b.getD 0 0 ≠ ~~~ b.getD 2 0 then none
  else if b.getD 1 0 ≠ ~~~ b.getD 3 0 then none
  else if 4096 < lenL b then none
  else if b.length < lenL b + 8 then none
  else if tailL b (lenL b) = fourL (chk i (recL b (lenL b))) then some (recL b (lenL b)) else none

def FirstTo (w : World) (r : Option (List UInt8)) (e : Ending) (w' : World) : Prop :=
  match r with
  | none => e = .returned (.tuple #[.slice none 0 0, .int .i64 0]) ∧ Kept All w w'
  | some l => ∃ A c, e = .returned (.tuple #[.slice A l.length c, .int .i64 (l.length + 8 : Nat)]) ∧ l.length ≤ c ∧ c ≤ maxLen ∧ RdL RB 1 All w' A l ∧ Kept All w w'

theorem number_n (i : Int) (T : Nat) (A : Option Addr) (n c : Nat) (l : List UInt8) (w : World) (hT : Blk w T 57 (tabK 256)) (hr : RdL RB 1 All w A l) (hl : l.length ≤ 5000000) (hn : n = l.length) :
    Calls Try.prog 31 #[.pointer (some ⟨T, 0, none⟩), .int .i64 i, .slice A n c] w (RetU w (chk i l)) := by
  subst hn; exact number_any i T A c l w hT hr hl
theorem ofInt_i64 (a : Nat) (ha : a < 9223372036854775808) : (BitVec.ofInt 64 (a : Int)).toNat = a := by
  rw [BitVec.ofInt_natCast, BitVec.toNat_ofNat]; exact Nat.mod_eq_of_lt (by omega)
theorem i64_or_nat (a b : Nat) (ha : a < 9223372036854775808) (hb : b < 9223372036854775808) : bits .or .i64 (a : Int) (b : Int) = ((a ||| b : Nat) : Int) := by
  have hx : a ||| b < 2 ^ 63 := Nat.or_lt_two_pow (by omega) (by omega)
  show IntKind.i64.wrap ((BitVec.ofInt 64 (a : Int) ||| BitVec.ofInt 64 (b : Int)).toNat : Int) = _
  rw [BitVec.toNat_or, ofInt_i64 a ha, ofInt_i64 b hb, IntKind.wrap_i64]
  omega
set_option maxRecDepth 100000 in
theorem or_nat (a b : Nat) (ha : a * 256 + b < 65536) (hb : b < 256) : bits .or .i64 ((a : Int) * 256) (b : Int) = ((a * 256 + b : Nat) : Int) := by
  have e : (a : Int) * 256 = ((a * 256 : Nat) : Int) := by omega
  have hor : a * 256 ||| b = a * 256 + b := nat_join 8 _ _ (Nat.mul_mod_left a 256) hb
  have ha' : a * 256 < 9223372036854775808 := by omega
  have hb' : b < 9223372036854775808 := by omega
  have h := i64_or_nat (a * 256) b ha' hb'
  rw [e, h, hor]
theorem or_len (x0 x1 : UInt8) : bits .or .i64 ((x0.toNat : Int) * 256) (x1.toNat : Int) = ((x0.toNat * 256 + x1.toNat : Nat) : Int) := by
  have h0 := x0.toNat_lt
  have h1 := x1.toNat_lt
  exact or_nat _ _ (by omega) (by omega)
theorem FirstTo.fail {w w' : World} {i : Int} {l : List UInt8} (h : firstL i l = none) (hk : Kept All w w') : FirstTo w (firstL i l) (.returned (.tuple #[.slice none 0 0, .int .i64 0])) w' := by
  rw [h]; exact ⟨rfl, hk⟩
set_option maxRecDepth 100000 in
set_option maxHeartbeats 1000000 in
theorem first_main (i : Int) (T g o n c : Nat) (l : List UInt8) (x0 x1 x2 x3 : UInt8) (w : World) (hl : l.length ≤ 5000000) (hc : l.length ≤ c) (hm : c ≤ 2 ^ 63 - 1)
    (hT' : Hid (Blk w T 57 (tabK 256))) (hd : decide ((l.length : Int) < 8) = false)
    (c0 : w.cell? ⟨g, o, none⟩ = some (.int .u8 (x0.toNat : Int))) (c1 : w.cell? ⟨g, o + 1, none⟩ = some (.int .u8 (x1.toNat : Int))) (c2 : w.cell? ⟨g, o + 2, none⟩ = some (.int .u8 (x2.toNat : Int))) (c3 : w.cell? ⟨g, o + 3, none⟩ = some (.int .u8 (x3.toNat : Int)))
    (t1 : ((x0.toNat : Int) != bits .xor .u8 IntKind.u8.max (x2.toNat : Int)) = false) (t2 : ((x1.toNat : Int) != bits .xor .u8 IntKind.u8.max (x3.toNat : Int)) = false)
    (hor : bits .or .i64 ((x0.toNat : Int) * 256) (x1.toNat : Int) = (n : Int)) (h3 : n ≤ 4096) (h4 : n + 8 ≤ l.length)
    (HREC : Hid (RdL RB 1 All w (some ⟨g, o + 4, none⟩) (recL l n))) (HTAIL : Hid (RdL RB 1 All w (some ⟨g, o + (4 + n), none⟩) (tailL l n))) (HRL : Hid (n = (recL l n).length)) (HTL : Hid (4 = (tailL l n).length))
    (tb : Bool) (HB : Hid ((tailL l n == fourL (chk i (recL l n))) = tb)) (KEY : Hid (firstL i l = if tb then some (recL l n) else none)) :
    Calls Try.prog 35 #[.pointer (some ⟨T, 0, none⟩), .int .i64 i, .slice (some ⟨g, o, none⟩) l.length c] w (FirstTo w (firstL i l)) := by
  have p0 : 0 < l.length := by omega
  have p1 : (1 : Int) < (l.length : Int) := by omega
  have p2 : (2 : Int) < (l.length : Int) := by omega
  have p3 : (3 : Int) < (l.length : Int) := by omega
  have hsg : IntKind.u8.signed = false := rfl
  have l0 := u8_lt x0
  have l1 := u8_lt x1
  go_enter Try.func35, Try.ntmps35
  go_wp2
  go_quiet (fail)
  go_wp2
  go_quiet (fail)
  clear hd t1 t2 c0 c1 c2 c3 hor hsg l0 l1
  go_wp2
  have q0 : IntKind.i64.wrap (4 + (n : Int)) = 4 + (n : Int) := IntWalk.i64_in _ (by omega)
  have q1 : ¬ c = 4 + n := by omega
  have q2 : 4 + n ≤ l.length := by omega
  have q3 : (4 : Int) + (n : Int) ≤ (l.length : Int) := by omega
  have q4 : (0 : Int) ≤ 4 + (n : Int) := by omega
  have q5 : (4 + (n : Int)).toNat = 4 + n := by omega
  have q6 : 4 ≤ l.length - (4 + n) := by omega
  have q7 : 4 ≤ c - (4 + n) := by omega
  go_region_with (first
    | (go_at_call 31; refine (number_n i T _ _ _ (recL l n) _ ?_ ?_ ?_ ?_).mono ?_; exact hT'.out; exact HREC.out; have := HRL.out; omega; have := HRL.out; omega; rintro e w1 ⟨rfl, hk1⟩; have K1 := Lib.hid hk1; clear hk1)
    | (go_at_call 34; refine (four34_any _ _).mono ?_; rintro e w2 ⟨A2, c2', rfl, -, -, hr2, hk2⟩; have K2 := Lib.hid hk2; have R2 := Lib.hid hr2; clear hk2 hr2)
    | (go_at_call 38; have K12 := K1.out.trans K2.out; replace K12 : Kept All w _ := K12.of_drewN; go_loud (refine (equal_any _ _ _ _ (tailL l n) (fourL (chk i (recL l n))) _ ?_ ?_ ?_ ?_).mono ?_); exact HTAIL.out.kept RB_good K12; exact R2.out.mono RB_good fun _ _ _ => trivial; exact HTL.out; rfl; rintro e w3 ⟨rfl, rfl⟩))
  all_goals
    rw [HB.out]
    have hlt := HRL.out
    have hfin : firstL i l = none → FirstTo w (firstL i l) (.returned (.tuple #[.slice none 0 0, .int .i64 0])) w2 := fun h => FirstTo.fail h K12
    have hfin2 : firstL i l = some (recL l n) → FirstTo w (firstL i l) (.returned (.tuple #[.slice (some ⟨g, o + 4, none⟩) n (c - 4), .int .i64 (4 + (n : Int) + 4)])) w2 := fun h => by
      rw [h]
      refine ⟨some ⟨g, o + 4, none⟩, c - 4, ?_, by omega, ?_, HREC.out.kept RB_good K12, K12⟩
      · rw [← hlt, show (4 + (n : Int) + 4) = ((n + 8 : Nat) : Int) by omega]
      · unfold maxLen; omega
    have F1 := Lib.hid hfin
    have F2 := Lib.hid hfin2
    have key := KEY.out
    clear hfin hfin2 hlt K12 K1 K2 R2 HREC HTAIL HRL HTL HB KEY hT' q0 q1 q2 q3 q4 q5 q6 q7
    cases tb
    · rw [if_neg (by simp)] at key
      have f1 := F1.out key
      have F := Lib.hid f1
      clear f1 F1 F2 key
      go_wp2
      go_ret2
      exact F.out
    · rw [if_pos rfl] at key
      have f1 := F2.out key
      have F := Lib.hid f1
      clear f1 F1 F2 key
      go_wp2
      go_ret2
      exact F.out
set_option maxRecDepth 100000 in
theorem first_any (i : Int) (T : Nat) (A : Option Addr) (c : Nat) (l : List UInt8) (w : World) (hT : Blk w T 57 (tabK 256)) (hr : RdL RB 1 All w A l) (hl : l.length ≤ 5000000) (hc : l.length ≤ c) (hm : c ≤ maxLen) (hi : i64ok i) :
    Calls Try.prog 35 #[.pointer (some ⟨T, 0, none⟩), .int .i64 i, .slice A l.length c] w (FirstTo w (firstL i l)) := by
  unfold maxLen at hm
  by_cases h0 : l.length < 8
  · have FIN := Lib.hid (fun n => FirstTo.fail (w := w) (w' := w.drewN n) (i := i) (l := l) (by rw [firstL, if_pos h0]) ((Kept.refl _ _).drewN _))
    have hd : decide ((l.length : Int) < 8) = true := by simp; omega
    clear hr hT
    go_enter Try.func35, Try.ntmps35
    go_wp2
    go_quiet (fail)
    go_wp2
    go_ret2
    exact FIN.out _
  have hd : decide ((l.length : Int) < 8) = false := by simp; omega
  have hT' := Lib.hid hT
  have hr' := Lib.hid hr
  obtain ⟨g, o, rfl, -, hcc⟩ := hr.to_map (by simp; omega)
  have hb : ∀ j, j < l.length → w.cell? ⟨g, o + j, none⟩ = some (.int .u8 ((l.getD j 0).toNat : Int)) := fun j hj => by
    refine (hcc j (u8v l[j]) (by simp [hj])).trans ?_
    simp [u8v, hj]
  have hb' := Lib.hid hb
  have c0 := hb 0 (by omega)
  have c1 := hb 1 (by omega)
  have c2 := hb 2 (by omega)
  have c3 := hb 3 (by omega)
  rw [Nat.add_zero] at c0
  clear hb hcc hr hT
  have p0 : 0 < l.length := by omega
  have p1 : (1 : Int) < (l.length : Int) := by omega
  have p2 : (2 : Int) < (l.length : Int) := by omega
  have p3 : (3 : Int) < (l.length : Int) := by omega
  have hsg : IntKind.u8.signed = false := rfl
  have l0 := u8_lt (l.getD 0 0)
  have l1 := u8_lt (l.getD 1 0)
  have tne : ∀ x y : UInt8, ((x.toNat : Int) != bits .xor .u8 IntKind.u8.max (y.toNat : Int)) = decide (x ≠ ~~~ y) := fun x y => by
    rw [w_not8, Bool.eq_iff_iff, bne_iff_ne, decide_eq_true_eq]
    exact not_congr ⟨fun h => UInt8.toNat_inj.1 (by exact_mod_cast h), fun h => by rw [h]⟩
  have t1 := tne (l.getD 0 0) (l.getD 2 0)
  have t2 := tne (l.getD 1 0) (l.getD 3 0)
  clear tne
  by_cases h1 : l.getD 0 0 ≠ ~~~ l.getD 2 0
  · have FIN := Lib.hid (fun n => FirstTo.fail (w := w) (w' := w.drewN n) (i := i) (l := l) (by rw [firstL, if_neg h0, if_pos h1]) ((Kept.refl _ _).drewN _))
    rw [decide_eq_true h1] at t1
    clear h1 t2
    generalize l.getD 0 0 = x0 at *
    generalize l.getD 1 0 = x1 at *
    generalize l.getD 2 0 = x2 at *
    generalize l.getD 3 0 = x3 at *
    go_enter Try.func35, Try.ntmps35
    go_wp2
    go_quiet (fail)
    go_wp2
    go_ret2
    exact FIN.out _
  rw [decide_eq_false h1] at t1
  by_cases h2 : l.getD 1 0 ≠ ~~~ l.getD 3 0
  · have FIN := Lib.hid (fun n => FirstTo.fail (w := w) (w' := w.drewN n) (i := i) (l := l) (by rw [firstL, if_neg h0, if_neg h1, if_pos h2]) ((Kept.refl _ _).drewN _))
    rw [decide_eq_true h2] at t2
    clear h1 h2
    generalize l.getD 0 0 = x0 at *
    generalize l.getD 1 0 = x1 at *
    generalize l.getD 2 0 = x2 at *
    generalize l.getD 3 0 = x3 at *
    go_enter Try.func35, Try.ntmps35
    go_wp2
    go_quiet (fail)
    go_wp2
    go_ret2
    exact FIN.out _
  rw [decide_eq_false h2] at t2
  have hlen : lenL l = (l.getD 0 0).toNat * 256 + (l.getD 1 0).toNat := rfl
  have hor := or_len (l.getD 0 0) (l.getD 1 0)
  rw [← hlen] at hor
  have hn6 : lenL l < 65536 := by omega
  have key : firstL i l = if 4096 < lenL l then none else if l.length < lenL l + 8 then none else if tailL l (lenL l) = fourL (chk i (recL l (lenL l))) then some (recL l (lenL l)) else none := by
    rw [firstL, if_neg h0, if_neg h1, if_neg h2]
  have KEY := Lib.hid key
  clear h1 h2 hlen key
  generalize l.getD 0 0 = x0 at *
  generalize l.getD 1 0 = x1 at *
  generalize l.getD 2 0 = x2 at *
  generalize l.getD 3 0 = x3 at *
  by_cases h3 : 4096 < lenL l
  · have FIN := Lib.hid (fun n => FirstTo.fail (w := w) (w' := w.drewN n) (i := i) (l := l) (by rw [KEY.out, if_pos h3]) ((Kept.refl _ _).drewN _))
    go_enter Try.func35, Try.ntmps35
    go_wp2
    go_quiet (fail)
    go_wp2
    go_quiet (fail)
    go_wp2
    go_ret2
    exact FIN.out _
  by_cases h4 : l.length < lenL l + 8
  · have FIN := Lib.hid (fun n => FirstTo.fail (w := w) (w' := w.drewN n) (i := i) (l := l) (by rw [KEY.out, if_neg h3, if_pos h4]) ((Kept.refl _ _).drewN _))
    go_enter Try.func35, Try.ntmps35
    go_wp2
    go_quiet (fail)
    go_wp2
    go_quiet (fail)
    go_wp2
    go_ret2
    exact FIN.out _
  have key := KEY.out
  rw [if_neg h3, if_neg h4] at key
  clear KEY
  have KEY := Lib.hid key
  clear key
  generalize lenL l = n at *
  have hrec : RdL RB 1 All w (some ⟨g, o + 4, none⟩) (recL l n) := hr'.out.part 4 n _ (fun g' o' e _ => by
    injection e with e; injection e with e1 e2; subst e1; subst e2; rfl)
  have htail : RdL RB 1 All w (some ⟨g, o + (4 + n), none⟩) (tailL l n) := hr'.out.part (4 + n) 4 _ (fun g' o' e _ => by
    injection e with e; injection e with e1 e2; subst e1; subst e2; simp)
  have hrl : n = (recL l n).length := by rw [recL, List.length_take, List.length_drop]; omega
  have htl : 4 = (tailL l n).length := by rw [tailL, List.length_take, List.length_drop]; omega
  have HREC := Lib.hid hrec
  have HTAIL := Lib.hid htail
  have HRL := Lib.hid hrl
  have HTL := Lib.hid htl
  clear hrec htail hrl htl
  by_cases ht : tailL l n = fourL (chk i (recL l n))
  · exact first_main i T g o n c l x0 x1 x2 x3 w hl hc hm hT' hd c0 c1 c2 c3 t1 t2 hor (by omega) (by omega) HREC HTAIL HRL HTL true (Lib.hid (beq_iff_eq.2 ht)) (Lib.hid (by rw [KEY.out, if_pos ht]; rfl))
  · exact first_main i T g o n c l x0 x1 x2 x3 w hl hc hm hT' hd c0 c1 c2 c3 t1 t2 hor (by omega) (by omega) HREC HTAIL HRL HTL false (Lib.hid (beq_eq_false_iff_ne.2 ht)) (Lib.hid (by rw [KEY.out, if_neg ht]; rfl))
end Go.Proofs.Ytnedeajebhbjbaa
