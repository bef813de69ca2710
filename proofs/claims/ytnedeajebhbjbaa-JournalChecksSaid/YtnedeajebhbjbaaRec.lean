import Derived.Test.YtnedeajebhbjbaaRead
namespace Go.Proofs.Ytnedeajebhbjbaa
open Go.RowKit

def recsF : Nat → List (List UInt8) → Nat → List UInt8 → List (List UInt8) × Nat
  | 0, done, p, _ => (done, p)
  | f + 1, done, p, b =>
    match firstL done.length (b.drop p) with
    | none => (done, p)
    | some r => if 4194304 < p + (r.length + 8) then (done, p) else recsF f (done ++ [r]) (p + (r.length + 8)) b
def recs (b : List UInt8) : List (List UInt8) × Nat := recsF (b.length + 1) [] 0 b

theorem firstL_len {i : Int} {b r : List UInt8} (h : firstL i b = some r) : r.length + 8 ≤ b.length ∧ r.length ≤ 4096 := by
  unfold firstL at h
  split at h; · cases h
  split at h; · cases h
  split at h; · cases h
  split at h; · cases h
  split at h; · cases h
  split at h
  · injection h with h
    subst h
    rw [recL, List.length_take, List.length_drop]
    omega
  · cases h

abbrev RBs : Rel (List UInt8) := RSl RB 1
theorem RBs_good : Good RBs 1 := RSl_good RB_good
theorem Try.sty28 : Sty Try.prog 28 22 (.slice none 0 0) 1 24 := ⟨by kernel_rfl, by kernel_rfl, rfl, by decide, by decide⟩
def RetRec (w : World) (r : List (List UInt8) × Nat) (e : Ending) (w' : World) : Prop :=
  ∃ A c, e = .returned (.tuple #[.slice A r.1.length c, .int .i64 (r.2 : Int)]) ∧ r.1.length ≤ c ∧ c ≤ maxLen ∧ RdL RBs 1 (Fr w) w' A r.1 ∧ Kept All w w'

theorem first_n (i : Int) (T : Nat) (A : Option Addr) (n c : Nat) (l : List UInt8) (w : World) (hT : Blk w T 57 (tabK 256)) (hr : RdL RB 1 All w A l) (hl : l.length ≤ 5000000) (hn : n = l.length) (hc : n ≤ c) (hm : c ≤ maxLen) (hi : i64ok i) :
    Calls Try.prog 35 #[.pointer (some ⟨T, 0, none⟩), .int .i64 i, .slice A n c] w (FirstTo w (firstL i l)) := by
  subst hn; exact first_any i T A c l w hT hr hl hc hm hi
theorem read_n (i : Int) (A : Option Addr) (n c : Nat) (l : List UInt8) (w : World) (hr : RdL RB 1 All w A l) (hl : l.length ≤ 5000000) (hn : n = l.length) (hc : n ≤ c) (hm : c ≤ maxLen) (hi : i64ok i) :
    Calls Try.prog 36 #[.int .i64 i, .slice A n c] w (ReadTo w (firstL i l)) := by
  subst hn; exact read_any i A c l w hr hl hc hm hi

/-- What holds at the head of a round of Records. -/
structure RecRel (w : World) (b : List UInt8) (v : Value) (p : Nat) (done : List (List UInt8)) (wr : World) : Prop where
  own : Own RBs 1 22 w.heap.size (Fr w) wr v done
  kept : Kept All w wr
  le : p ≤ b.length
  many : done.length * 8 ≤ p
  same : ∃ f, b.length - p < f ∧ recsF f done p b = recs b

theorem RecRel.stop {w wr : World} {b : List UInt8} {v : Value} {p : Nat} {done : List (List UInt8)} (h : RecRel w b v p done wr) (h0 : firstL done.length (b.drop p) = none) : recs b = (done, p) := by
  obtain ⟨f, hf, h1⟩ := h.same
  rw [← h1]
  cases f with
  | zero => omega
  | succ f => rw [recsF, h0]
theorem RecRel.stop2 {w wr : World} {b : List UInt8} {v : Value} {p : Nat} {done : List (List UInt8)} (h : RecRel w b v p done wr) {r : List UInt8} (h0 : firstL done.length (b.drop p) = some r) (h2 : 4194304 < p + (r.length + 8)) : recs b = (done, p) := by
  obtain ⟨f, hf, h1⟩ := h.same
  rw [← h1]
  cases f with
  | zero => omega
  | succ f => rw [recsF, h0]; simp [h2]
theorem RecRel.next {w wr wn : World} {b : List UInt8} {v v' : Value} {p : Nat} {done : List (List UInt8)} (h : RecRel w b v p done wr) {r : List UInt8} (h0 : firstL done.length (b.drop p) = some r) (h2 : ¬ 4194304 < p + (r.length + 8))
    (ho : Own RBs 1 22 w.heap.size (Fr w) wn v' (done ++ [r])) (hk : Kept All w wn) : RecRel w b v' (p + (r.length + 8)) (done ++ [r]) wn := by
  obtain ⟨f, hf, h1⟩ := h.same
  have hl := (firstL_len h0).1
  rw [List.length_drop] at hl
  refine ⟨ho, hk, by omega, by have := h.many; rw [List.length_append]; simp; omega, ?_⟩
  cases f with
  | zero => omega
  | succ f =>
    refine ⟨f, by omega, ?_⟩
    rw [← h1, recsF, h0]
    simp [h2]
theorem RecRel.fin {w wr wn : World} {b : List UInt8} {A : Option Addr} {n c p : Nat} {done : List (List UInt8)} (h : RecRel w b (.slice A n c) p done wr) (hr : recs b = (done, p)) (hk : Kept All wr wn) :
    RetRec w (recs b) (.returned (.tuple #[.slice A n c, .int .i64 (p : Int)])) wn := by
  obtain ⟨A', c', hv, h1, h2, h3⟩ := (h.own.keptAll RBs_good hk).rd (S := Fr w) RBs_good (fun k hk _ => hk)
  injection hv with e1 e2 e3
  subst e1; subst e3
  rw [hr]
  exact ⟨A, c, by rw [e2], h1, h2, h3, h.kept.trans hk⟩

theorem RetRec.after {w w2 w' : World} {r : List (List UInt8) × Nat} {e : Ending} (h : RetRec w2 r e w') (hk : Kept All w w2) : RetRec w r e w' := by
  obtain ⟨A, c, h1, h2, h3, h4, h5⟩ := h
  exact ⟨A, c, h1, h2, h3, h4.mono RBs_good fun k _ hk' => Nat.le_trans hk.size hk', hk.trans h5⟩
set_option maxRecDepth 100000 in
set_option maxHeartbeats 1000000 in
theorem records24_any (A : Option Addr) (c : Nat) (b : List UInt8) (w : World) (hr : RdL RB 1 All w A b) (hl : b.length ≤ 5000000) (hc : b.length ≤ c) (hm : c ≤ maxLen) :
    Calls Try.prog 24 #[.slice A b.length c] w (RetRec w (recs b)) := by
  have HR := Lib.hid hr
  have HC := Lib.hid hc
  have HM := Lib.hid hm
  have r0 : RecRel w b (.slice none 0 0) 0 [] w := ⟨Own.nil, Kept.refl _ _, by omega, by simp, _, Nat.lt_succ_self _, rfl⟩
  have R0 := Lib.hid r0
  clear r0 hr hm hc
  go_enter Try.func24, Try.ntmps24
  go_wp2_with fail
  go_loopw [4, 5] (fun v x wr => ∃ (A1 : Option Addr) (c1 p : Nat) (done : List (List UInt8)), v = .slice A1 done.length c1 ∧ x = .int .i64 p ∧ Hid (RecRel w b (.slice A1 done.length c1) p done wr)) (fun _ x _ => b.length - (intOf x).toNat)
  case atStart => exact ⟨none, 0, 0, [], rfl, rfl, R0⟩
  case round =>
    obtain ⟨A1, c1, p, done, rfl, rfl, HREL⟩ := hrel
    have hp := HREL.out.le
    have hd := HREL.out.many
    have hown := HREL.out.own
    clear R0
    go_wp2_with (with_reducible refine wp_at_slice rfl ?_)
    unfold wpStop
    refine wpList_cutL RB_good Try.sty22 (HR.out.kept RB_good HREL.out.kept) rfl rfl rfl rfl p (b.length - p) rfl (by omega) HC.out rfl ?_
    intro A' hr'
    have HR' := Lib.hid hr'
    have hcl : (b.drop p).length = b.length - p := List.length_drop
    have HCL := Lib.hid hcl
    clear hr' hown hcl
    go_wp2_with fail
    refine (read_n _ A' _ _ (b.drop p) wr HR'.out (by have := HCL.out; omega) HCL.out.symm (by have := HC.out; omega) (by have := HM.out; omega) ?_).mono ?_
    · unfold i64ok; omega
    intro e w1 hto
    cases hfl : firstL (done.length : Int) (b.drop p) with
    | none =>
      rw [hfl] at hto
      obtain ⟨rfl, hk1⟩ := hto
      have FIN := Lib.hid (HREL.out.fin (HREL.out.stop hfl) hk1)
      clear hfl hk1
      go_wp2_with fail
      go_ret2
      exact FIN.out
    | some r =>
      rw [hfl] at hto
      obtain ⟨A2, c2, rfl, hc2, hm2, hr2, hk1⟩ := hto
      have hfr := (firstL_len hfl).2
      by_cases hbig : 4194304 < p + (r.length + 8)
      · have FIN := Lib.hid (HREL.out.fin (HREL.out.stop2 hfl hbig) hk1)
        have hb2 : (4194304 : Int) < (p : Int) + ((r.length : Int) + 8) := by omega
        clear hfl hk1 hr2 hbig
        go_wp2_with fail
        go_ret2
        exact FIN.out
      · have hb2 : decide ((4194304 : Int) < (p : Int) + ((r.length : Int) + 8)) = false := by rw [decide_eq_false_iff_not]; omega
        have HBIG := Lib.hid hbig
        have hown := HREL.out.own
        have hown1 := hown.keptAll RBs_good hk1
        have HOWN1 := Lib.hid hown1
        have K1 := Lib.hid (HREL.out.kept.trans hk1)
        have hblk := hown.blk
        have hcell : RBs (Fr wr) w1 [.slice A2 r.length c2] r := ⟨A2, c2, rfl, hc2, hm2, hr2⟩
        have HLIT := Lib.hid (RdL.lit (e := 22) (Enc.single RBs_good hcell) RBs_good hk1.size)
        have HFL := Lib.hid hfl
        have HBLK := Lib.hid hblk
        clear hfl hk1 hr2 hown hown1 hblk hcell hbig
        go_wp2_with (at_builtin; refine wp_stop ?_)
        unfold wpStop
        refine wpList_app RBs_good Try.sty28 (HOWN1.out.alloc RBs_good _) HLIT.out (.inl fun k hk h => ⟨Nat.le_trans HREL.out.kept.size h, fun he => by have h1 := (HBLK.out k he.symm).2; unfold Fr at h; omega⟩) rfl rfl rfl (m := done.length + 1) rfl rfl rfl ?_ ?_ ?_
        · omega
        · have := K1.out.size; simp; omega
        intro A3 c3 w3 own3 hc3 hm3 hk3 hb3
        have kw := (K1.out.alloc (.cells [Value.slice A2 r.length c2].toArray 22)).through hk3 (HOWN1.out.alloc RBs_good _) (Nat.le_refl _)
        have hnext := HREL.out.next HFL.out HBIG.out own3 kw
        rw [show done.length + 1 = (done ++ [r]).length by simp] at hnext
        have HN := Lib.hid hnext
        clear own3 kw hk3 hb3 hnext
        go_wp2_with fail
        have hfl' := firstL_len HFL.out
        rw [HCL.out] at hfl'
        exact ⟨⟨A3, c3, p + (r.length + 8), done ++ [r], by simp, by simp, HN⟩, by simp [intOf]; omega⟩

set_option maxRecDepth 100000 in
set_option maxHeartbeats 1000000 in
theorem records21_any (A : Option Addr) (c : Nat) (b : List UInt8) (w : World) (hr : RdL RB 1 All w A b) (hl : b.length ≤ 5000000) (hc : b.length ≤ c) (hm : c ≤ maxLen) :
    Calls Try.prog 21 #[.slice A b.length c] w (RetRec w (recs b)) := by
  have HR := Lib.hid hr
  have HC := Lib.hid hc
  have HM := Lib.hid hm
  clear hr hm hc
  go_enter Try.func21, Try.ntmps21
  go_wp2_with fail
  refine (entries_any w).mono ?_
  rintro e w1 ⟨rfl, hk1⟩
  have hk1' := Lib.hid hk1
  clear hk1
  have hz := fun W => zero57 W
  go_wp2_with (refine wpList_store_row (cs := tabK 256) (cur := tabK 0) (g := w1.heap.size) rfl rfl rfl rfl (Blk.new w1 57 (tabK 0)) (by rw [tabK_size]; exact info57) (by rw [tabK_size, tabK_size]) (tab_one _) ?_)
  clear hz
  intro w2 hb2 hg2
  have hk2 : Kept All w w2 := (hk1'.out.alloc _).grown hg2 fun k hk => .inr (by injection hk with hk; have := hk1'.out.size; omega)
  have hk2' := Lib.hid hk2
  have hb2' := Lib.hid hb2
  have r0 : RecRel w2 b (.slice none 0 0) 0 [] w2 := ⟨Own.nil, Kept.refl _ _, by omega, by simp, _, Nat.lt_succ_self _, rfl⟩
  have R0 := Lib.hid r0
  clear hk2 hb2 hg2 r0
  generalize w1.heap.size = T at *
  go_wp2_with fail
  go_loopw [4, 6] (fun v x wr => ∃ (A1 : Option Addr) (c1 p : Nat) (done : List (List UInt8)), v = .slice A1 done.length c1 ∧ x = .int .i64 p ∧ Hid (RecRel w2 b (.slice A1 done.length c1) p done wr)) (fun _ x _ => b.length - (intOf x).toNat)
  case atStart => exact ⟨none, 0, 0, [], rfl, rfl, R0⟩
  case round =>
    obtain ⟨A1, c1, p, done, rfl, rfl, HREL⟩ := hrel
    have hp := HREL.out.le
    have hd := HREL.out.many
    clear R0
    go_wp2_with (with_reducible refine wp_at_slice rfl ?_)
    unfold wpStop
    refine wpList_cutL RB_good Try.sty22 ((HR.out.kept RB_good hk2'.out).kept RB_good HREL.out.kept) rfl rfl rfl rfl p (b.length - p) rfl (by omega) HC.out rfl ?_
    intro A' hr'
    have HR' := Lib.hid hr'
    have hcl : (b.drop p).length = b.length - p := List.length_drop
    have HCL := Lib.hid hcl
    clear hr' hcl
    go_wp2_with fail
    refine (first_n _ T A' _ _ (b.drop p) wr (hb2'.out.kept HREL.out.kept trivial) HR'.out (by have := HCL.out; omega) HCL.out.symm (by have := HC.out; omega) (by have := HM.out; omega) ?_).mono ?_
    · unfold i64ok; omega
    intro e w3 hto
    cases hfl : firstL (done.length : Int) (b.drop p) with
    | none =>
      rw [hfl] at hto
      obtain ⟨rfl, hk1⟩ := hto
      have FIN := Lib.hid ((HREL.out.fin (HREL.out.stop hfl) hk1).after hk2'.out)
      clear hfl hk1
      go_wp2_with fail
      go_ret2
      exact FIN.out
    | some r =>
      rw [hfl] at hto
      obtain ⟨A2, c2, rfl, hc2, hm2, hr2, hk1⟩ := hto
      have hfr := (firstL_len hfl).2
      have hz0 : (((r.length + 8 : Nat) : Int) == 0) = false := by rw [beq_eq_false_iff_ne]; omega
      have hz1 : ((r.length : Int) + 8 == 0) = false := by rw [beq_eq_false_iff_ne]; omega
      by_cases hbig : 4194304 < p + (r.length + 8)
      · have FIN := Lib.hid ((HREL.out.fin (HREL.out.stop2 hfl hbig) hk1).after hk2'.out)
        have hb2 : (4194304 : Int) < (p : Int) + ((r.length : Int) + 8) := by omega
        clear hfl hk1 hr2 hbig
        go_wp2_with fail
        go_ret2
        exact FIN.out
      · have hb2 : decide ((4194304 : Int) < (p : Int) + ((r.length : Int) + 8)) = false := by rw [decide_eq_false_iff_not]; omega
        have HBIG := Lib.hid hbig
        have hown := HREL.out.own
        have hown1 := hown.keptAll RBs_good hk1
        have HOWN1 := Lib.hid hown1
        have K1 := Lib.hid (HREL.out.kept.trans hk1)
        have K13 := Lib.hid hk1
        have hblk := hown.blk
        have HFL := Lib.hid hfl
        have HBLK := Lib.hid hblk
        have HR2 := Lib.hid hr2
        clear hfl hk1 hr2 hown hown1 hblk hbig
        go_wp2_with (at_builtin; refine wp_stop ?_)
        unfold wpStop
        refine wpList_app (base := w3.heap.size) (S := All) (xs := []) RB_good Try.sty22 Own.nil HR2.out (.inr fun _ _ _ _ h => h) rfl rfl rfl (m := r.length) rfl rfl ?_ ?_ ?_ ?_
        · simp
        · omega
        · exact Nat.le_refl _
        intro A4 c4 w4 own4 hc4 hm4 hk4 hb4
        rw [List.nil_append] at own4
        have hk34 : Kept All w3 w4 := hk4.mono fun k _ _ => by simp [Value.ownBlock]
        obtain ⟨A', c', hv, h5, h6, h7⟩ := own4.rd (S := Fr wr) RB_good (fun k hk _ => Nat.le_trans K13.out.size hk)
        injection hv with e1 _ e2
        subst e1; subst e2
        have hcell : RBs (Fr wr) w4 [.slice A4 r.length c4] r := ⟨A4, c4, rfl, hc4, hm4, h7⟩
        have HLIT := Lib.hid (RdL.lit (e := 22) (Enc.single RBs_good hcell) RBs_good (Nat.le_trans K13.out.size hk34.size))
        have HOWN4 := Lib.hid (HOWN1.out.keptAll RBs_good hk34)
        have K4 := Lib.hid (K1.out.trans hk34)
        clear own4 hk4 hb4 hk34 h5 h6 h7 hcell
        go_wp2_with (at_builtin; refine wp_stop ?_)
        unfold wpStop
        refine wpList_app RBs_good Try.sty28 (HOWN4.out.alloc RBs_good _) HLIT.out (.inl fun k hk h => ⟨Nat.le_trans HREL.out.kept.size h, fun he => by have h1 := (HBLK.out k he.symm).2; unfold Fr at h; omega⟩) rfl rfl rfl (m := done.length + 1) rfl rfl rfl ?_ ?_ ?_
        · omega
        · have := K4.out.size; simp; omega
        intro A3 c3 w5 own3 hc3 hm3 hk3 hb3
        have kw := (K4.out.alloc (.cells [Value.slice A4 r.length c4].toArray 22)).through hk3 (HOWN4.out.alloc RBs_good _) (Nat.le_refl _)
        have hnext := HREL.out.next HFL.out HBIG.out own3 kw
        rw [show done.length + 1 = (done ++ [r]).length by simp] at hnext
        have HN := Lib.hid hnext
        clear own3 kw hk3 hb3 hnext
        go_wp2_with fail
        have hfl' := firstL_len HFL.out
        rw [HCL.out] at hfl'
        exact ⟨⟨A3, c3, p + (r.length + 8), done ++ [r], by simp, by simp, HN⟩, by simp [intOf]; omega⟩
end Go.Proofs.Ytnedeajebhbjbaa
