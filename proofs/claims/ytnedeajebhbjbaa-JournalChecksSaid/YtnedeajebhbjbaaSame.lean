import Derived.Test.YtnedeajebhbjbaaApp2
namespace Go.Proofs.Ytnedeajebhbjbaa
open Go.RowKit

theorem list_at {S : Nat → Prop} {w : World} {A : Option Addr} {xs : List (List UInt8)} (h : RdL RBs 1 S w A xs) {k : Nat} (hk : k < xs.length) :
    ∃ g o A1 c1, A = some ⟨g, o, none⟩ ∧ w.cell? ⟨g, o + k, none⟩ = some (.slice A1 xs[k].length c1) ∧ xs[k].length ≤ c1 ∧ c1 ≤ maxLen ∧ RdL RB 1 S w A1 xs[k] := by
  obtain ⟨g, o, u, hA, hs, hc, A1, c1, e, h1, h2, h3⟩ := h.at1 hk RBs_good
  injection e with e
  subst e
  exact ⟨g, o, A1, c1, hA, hc, h1, h2, h3⟩

set_option maxRecDepth 100000 in
set_option maxHeartbeats 1000000 in
theorem same_any (A A' : Option Addr) (n n' c c' : Nat) (xs ys : List (List UInt8)) (w : World) (h : RdL RBs 1 All w A xs) (h' : RdL RBs 1 All w A' ys) (hn : n = xs.length) (hn' : n' = ys.length) (hl : xs.length ≤ 5000000) (hl' : ys.length ≤ 5000000) :
    Calls Try.prog 23 #[.slice A n c, .slice A' n' c'] w fun e w' => e = .returned (.bool (decide (xs = ys))) ∧ Kept All w w' := by
  subst hn
  subst hn'
  have H := Lib.hid h
  have H' := Lib.hid h'
  clear h h'
  by_cases hne : xs.length = ys.length
  · have hb : ((xs.length : Int) != (ys.length : Int)) = false := by rw [bne_eq_false_iff_eq]; omega
    have HNE := Lib.hid hne
    clear hne
    have hbt := bs_toList
    go_enter Try.func23, Try.ntmps23
    go_wp2_with fail
    go_loopw [5] (fun x wr => ∃ k m : Nat, k ≤ xs.length ∧ x = .int .i64 k ∧ wr = w.drewN m ∧ Hid (∀ j, j < k → xs[j]? = ys[j]?)) (fun x _ => xs.length - (intOf x).toNat)
    case atStart => exact ⟨0, 0, by omega, rfl, rfl, Lib.hid fun j hj => absurd hj (by omega)⟩
    case round =>
      obtain ⟨k, m, hk, rfl, rfl, HEQ⟩ := hrel
      by_cases hlt : k < xs.length
      · have hlt' : k < ys.length := by have := HNE.out; omega
        obtain ⟨g, o, A1, c1, rfl, hc1, -, -, hr1⟩ := list_at H.out hlt
        obtain ⟨g', o', A2, c2, rfl, hc2, -, -, hr2⟩ := list_at H'.out hlt'
        have hx1 : xs[k]? = some xs[k] := List.getElem?_eq_getElem hlt
        have hx2 : ys[k]? = some ys[k] := List.getElem?_eq_getElem hlt'
        generalize xs[k] = x at *
        generalize ys[k] = y at *
        have hcv1 := fun nq => conv22 (hr1.kept RB_good ((Kept.refl All w).drewN nq)) rfl c1
        have hcv2 := fun nq => conv22 (hr2.kept RB_good ((Kept.refl All w).drewN nq)) rfl c2
        have X1 := Lib.hid hx1
        have X2 := Lib.hid hx2
        clear hx1 hx2 hr1 hr2
        have p1 : (k : Int) < (xs.length : Int) := by omega
        have p2 : (k : Int) < (ys.length : Int) := by omega
        by_cases hxy : x = y
        · have te : (x == y) = true := by simp [hxy]
          have HXY := Lib.hid hxy
          clear hxy
          go_wp2
          go_quiet (fail)
          go_wp2
          refine ⟨⟨k + 1, m + nq, by omega, by go_num, rfl, Lib.hid fun j hj => ?_⟩, by simp [intOf]; omega⟩
          by_cases he : j = k
          · rw [he, X1.out, X2.out, HXY.out]
          · exact HEQ.out j (by omega)
        · have te : (x == y) = false := by simp [hxy]
          have HXY := Lib.hid hxy
          clear hxy
          have hd : decide (xs = ys) = false := by
            rw [decide_eq_false_iff_not]; intro e
            have := X1.out
            rw [e, X2.out] at this
            injection this with this
            exact HXY.out this.symm
          have HD := Lib.hid hd
          clear hd
          go_wp2
          go_quiet (fail)
          go_wp2
          go_ret
          exact ⟨by rw [HD.out]; rfl, ((Kept.refl _ _).drewN _).drewN _⟩
      · obtain rfl : k = xs.length := by omega
        have hd : decide (xs = ys) = true := by
          rw [decide_eq_true_eq]
          apply List.ext_getElem?
          intro j
          by_cases hj : j < xs.length
          · exact HEQ.out j hj
          · have := HNE.out
            rw [List.getElem?_eq_none (by omega), List.getElem?_eq_none (by omega)]
        have HD := Lib.hid hd
        clear hd
        go_wp2
        go_ret
        exact ⟨by rw [HD.out]; rfl, (Kept.refl _ _).drewN _⟩
  · have hb : ((xs.length : Int) != (ys.length : Int)) = true := by rw [bne_iff_ne]; omega
    have hd : decide (xs = ys) = false := by rw [decide_eq_false_iff_not]; intro e; exact hne (by rw [e])
    have HD := Lib.hid hd
    clear hne hd
    go_enter Try.func23, Try.ntmps23
    go_wp2_with fail
    go_ret
    exact ⟨by rw [HD.out]; rfl, Kept.refl _ _⟩

theorem append27_n (A A' : Option Addr) (n n' c c' : Nat) (b r : List UInt8) (w : World) (hr : RdL RB 1 All w A b) (hl : b.length ≤ 5000000) (hn : n = b.length) (hc : b.length ≤ c) (hm : c ≤ maxLen) (hr' : RdL RB 1 All w A' r) (hn' : n' = r.length) (hl' : r.length ≤ 5000000) :
    Calls Try.prog 27 #[.slice A n c, .slice A' n' c'] w (RetBE w (appR b r)) := by
  subst hn; subst hn'; exact append27_any A A' c c' b r w hr hl hc hm hr' hl'

/-- The journal of some records. -/
def jrnF : List UInt8 → List (List UInt8) → Option (List UInt8)
  | b, [] => some b
  | b, r :: l => if (appR b r).2 = 0 then jrnF (appR b r).1 l else none
def RetW (w : World) (r : Option (List UInt8)) (e : Ending) (w' : World) : Prop :=
  match r with
  | none => e = .returned (.tuple #[.slice none 0 0, .bool false]) ∧ Kept All w w'
  | some b => ∃ A c, e = .returned (.tuple #[.slice A b.length c, .bool true]) ∧ b.length ≤ c ∧ c ≤ maxLen ∧ RdL RB 1 (Fr w) w' A b ∧ Kept All w w'
structure WRel (w : World) (l : List (List UInt8)) (A : Option Addr) (c k : Nat) (b : List UInt8) (wr : World) : Prop where
  rd : RdL RB 1 (Fr w) wr A b
  bd : b.length ≤ c
  mx : c ≤ maxLen
  sz : b.length ≤ 4194304
  same : jrnF b (l.drop k) = jrnF [] l
  kept : Kept All w wr
theorem appR_len {b r : List UInt8} (h : (appR b r).2 = 0) : (appR b r).1.length ≤ 4194304 := by
  unfold appR at h ⊢
  split at h
  · simp at h
  · split at h
    · simp at h
    · rename_i h1 h2
      rw [if_neg h1, if_neg h2, List.length_append, frameL_len]
      omega
theorem WRel.next {w wr wn : World} {l : List (List UInt8)} {A A' : Option Addr} {c c' k : Nat} {b : List UInt8} (h : WRel w l A c k b wr) (hk : k < l.length) (h0 : (appR b l[k]).2 = 0)
    (hr : RdL RB 1 (Fr wr) wn A' (appR b l[k]).1) (h1 : (appR b l[k]).1.length ≤ c') (h2 : c' ≤ maxLen) (hw : Kept All wr wn) : WRel w l A' c' (k + 1) (appR b l[k]).1 wn := by
  refine ⟨hr.mono RB_good fun j _ hj => Nat.le_trans h.kept.size hj, h1, h2, appR_len h0, ?_, h.kept.trans hw⟩
  rw [← h.same, List.drop_eq_getElem_cons hk, jrnF, if_pos h0]
theorem WRel.stop {w wr wn : World} {l : List (List UInt8)} {A : Option Addr} {c k : Nat} {b : List UInt8} (h : WRel w l A c k b wr) (hk : k < l.length) (h0 : (appR b l[k]).2 ≠ 0) (hw : Kept All wr wn) :
    RetW w (jrnF [] l) (.returned (.tuple #[.slice none 0 0, .bool false])) wn := by
  have e : jrnF [] l = none := by rw [← h.same, List.drop_eq_getElem_cons hk, jrnF, if_neg h0]
  rw [e]
  exact ⟨rfl, h.kept.trans hw⟩
theorem WRel.fin {w wr : World} {l : List (List UInt8)} {A : Option Addr} {c : Nat} {b : List UInt8} (h : WRel w l A c l.length b wr) :
    RetW w (jrnF [] l) (.returned (.tuple #[.slice A b.length c, .bool true])) wr := by
  have e : jrnF [] l = some b := by rw [← h.same, List.drop_length]; rfl
  rw [e]
  exact ⟨A, c, rfl, h.bd, h.mx, h.rd, h.kept⟩

set_option maxRecDepth 100000 in
set_option maxHeartbeats 1000000 in
theorem written_any (A : Option Addr) (n c : Nat) (l : List (List UInt8)) (w : World) (hr : RdL RBs 1 All w A l) (hn : n = l.length) (hl : l.length ≤ 5000000) (hs : ∀ r ∈ l, r.length ≤ 5000000) :
    Calls Try.prog 19 #[.slice A n c] w (RetW w (jrnF [] l)) := by
  subst hn
  have H := Lib.hid hr
  have HS := Lib.hid hs
  have R0 := Lib.hid (show WRel w l none 0 0 [] w from ⟨RdL.nil, Nat.le_refl _, by unfold maxLen; omega, by simp, rfl, Kept.refl _ _⟩)
  clear hr hs
  go_enter Try.func19, Try.ntmps19
  go_wp2_with fail
  go_loopw [4, 10] (fun v x wr => ∃ (A1 : Option Addr) (c1 k : Nat) (b : List UInt8), k ≤ l.length ∧ v = .slice A1 b.length c1 ∧ x = .int .i64 k ∧ Hid (WRel w l A1 c1 k b wr)) (fun _ x _ => l.length - (intOf x).toNat)
  case atStart => exact ⟨none, 0, 0, [], by omega, rfl, rfl, R0⟩
  case round =>
    obtain ⟨A1, c1, k, b, hk, rfl, rfl, HREL⟩ := hrel
    clear R0
    by_cases hlt : k < l.length
    · obtain ⟨g, o, A2, c2, hA, hc1, -, -, hr1⟩ := list_at (H.out.kept RBs_good HREL.out.kept) hlt
      subst hA
      have hrs := HS.out _ (List.getElem_mem hlt)
      have hb := HREL.out.sz
      have NX := Lib.hid (fun A' c' wn h0 hr h1 h2 hw => HREL.out.next (wn := wn) (A' := A') (c' := c') hlt h0 hr h1 h2 hw)
      have ST := Lib.hid (fun wn h0 hw => HREL.out.stop (wn := wn) hlt h0 hw)
      generalize l[k] = r at *
      have HR1 := Lib.hid hr1
      clear hr1
      go_wp2_with fail
      refine (append27_n _ _ _ _ _ _ b r wr (HREL.out.rd.mono RB_good fun _ _ _ => trivial) (by omega) rfl HREL.out.bd HREL.out.mx HR1.out rfl hrs).mono ?_
      rintro e w1 ⟨A3, c3, rfl, h1, h2, h3, h4⟩
      by_cases h0 : (appR b r).2 = 0
      · have HN := Lib.hid (NX.out A3 c3 w1 h0 h3 h1 h2 h4)
        have hz : ((appR b r).2 != 0) = false := by simp [h0]
        generalize appR b r = q at *
        obtain ⟨q1, q2⟩ := q
        simp only at h0 hz HN
        subst h0
        clear h3 h4 h1 h2 NX ST
        go_wp2_with fail
        exact ⟨⟨A3, c3, k + 1, q1, by omega, rfl, by go_num, HN⟩, by simp [intOf]; omega⟩
      · have HN := Lib.hid (ST.out w1 h0 h4)
        have hz : ((appR b r).2 != 0) = true := by simp [h0]
        generalize (appR b r) = q at *
        clear h3 h4 h1 h2 NX ST h0
        go_wp2_with fail
        go_ret2
        exact HN.out
    · obtain rfl : k = l.length := by omega
      have HN := Lib.hid HREL.out.fin
      go_wp2_with fail
      go_ret2
      exact HN.out
end Go.Proofs.Ytnedeajebhbjbaa
