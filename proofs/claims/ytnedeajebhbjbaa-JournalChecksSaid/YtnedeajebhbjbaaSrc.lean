import Derived.Test.YtnedeajebhbjbaaMem
namespace Go.Proofs.Ytnedeajebhbjbaa
open Go.RowKit

def i64ok (x : Int) : Prop := -9223372036854775808 ≤ x ∧ x ≤ 9223372036854775807

def gmod (x n : Int) : Int := if n < 1 then 0 else if Int.tmod x n < 0 then Int.tmod x n + n else Int.tmod x n
theorem gmod_bd (x n : Int) : 0 ≤ gmod x n ∧ (1 ≤ n → gmod x n < n) ∧ (n < 1 → gmod x n = 0) := by
  unfold gmod
  by_cases hn : n < 1
  · rw [if_pos hn]; omega
  · rw [if_neg hn]
    have h1 : Int.tmod x n < n := Int.tmod_lt_of_pos x (by omega)
    have h2 : -n < Int.tmod x n := by
      have := Int.lt_tmod_of_pos x (b := n) (by omega); omega
    split <;> omega
theorem mod_any (x n : Int) (w : World) (h1 : i64ok x) (h2 : i64ok n) :
    Calls Try.prog 20 #[.int .i64 x, .int .i64 n] w fun e w' => e = .returned (.int .i64 (gmod x n)) ∧ w = w' := by
  have hb := gmod_bd x n
  have e : gmod x n = if n < 1 then 0 else if Int.tmod x n < 0 then Int.tmod x n + n else Int.tmod x n := rfl
  generalize gmod x n = r at *
  have H := Lib.hid e
  clear e
  obtain ⟨h1, h1'⟩ := h1
  obtain ⟨h2, h2'⟩ := h2
  by_cases hn : n < 1
  · go_enter Try.func20, Try.ntmps20
    go_wp2
    go_ret
    exact ⟨by rw [H.out, if_pos hn]; simp, rfl⟩
  · have h3 : Int.tmod x n < n := Int.tmod_lt_of_pos x (by omega)
    have h4 : -n < Int.tmod x n := Int.lt_tmod_of_pos x (by omega)
    by_cases hx : Int.tmod x n < 0
    · go_enter Try.func20, Try.ntmps20
      go_wp2
      go_ret
      exact ⟨by rw [H.out, if_neg (by omega), if_pos (by omega)]; simp, rfl⟩
    · go_enter Try.func20, Try.ntmps20
      go_wp2
      go_ret
      exact ⟨by rw [H.out, if_neg (by omega), if_neg (by omega)]; simp, rfl⟩

/-- Block b is a reader of numbers. -/
def SrcIs (w : World) (b : Nat) : Prop :=
  ∃ (A : Option Addr) (c p : Nat) (L : List Int), Blk w b 54 #[.slice A L.length c, .int .i64 (p : Int)] ∧ L.length ≤ 2000 ∧ p ≤ L.length ∧ Rd (· < b) w A (L.map (.int .i64)) ∧ ∀ z ∈ L, i64ok z

theorem SrcIs.keptS {S : Nat → Prop} {w w' : World} {b : Nat} (h : SrcIs w b) (hk : Kept S w w') (hS : ∀ k, k ≤ b → S k) : SrcIs w' b := by
  obtain ⟨A, c, p, L, h1, h2, h3, h4, h5⟩ := h
  exact ⟨A, c, p, L, h1.kept hk (hS b (Nat.le_refl _)), h2, h3, h4.kept (hk.mono fun k _ hk => hS k (Nat.le_of_lt hk)), h5⟩
theorem SrcIs.kept {w w' : World} {b : Nat} (h : SrcIs w b) (hk : Kept (fun _ => True) w w') : SrcIs w' b := h.keptS hk fun _ _ => trivial
theorem SrcIs.lt {w : World} {b : Nat} (h : SrcIs w b) : b < w.heap.size := by
  obtain ⟨A, c, p, L, h1, _⟩ := h
  exact h1.lt

/-- What reading a number leaves. -/
def SrcTo (w : World) (b : Nat) (P : Int → Prop) (e : Ending) (w' : World) : Prop :=
  ∃ r, P r ∧ e = .returned (.int .i64 r) ∧ SrcIs w' b ∧ Kept (· ≠ b) w w'

theorem raw_any (b : Nat) (w : World) (h : SrcIs w b) :
    Calls Try.prog 29 #[.pointer (some ⟨b, 0, none⟩)] w (SrcTo w b i64ok) := by
  obtain ⟨A, c, p, L, hb, hn, hat, h, hL⟩ := h
  have c0 : w.cell? ⟨b, 0, none⟩ = some (.slice A L.length c) := hb.cell 0
  have c1 : w.cell? ⟨b, 1, none⟩ = some (.int .i64 (p : Int)) := hb.cell 1
  by_cases hlt : L.length ≤ p
  · go_enter Try.func29, Try.ntmps29
    go_wp2
    go_quiet (fail)
    go_wp2
    go_ret
    exact ⟨0, by unfold i64ok; omega, rfl, SrcIs.kept ⟨A, c, p, L, hb, hn, hat, h, hL⟩ ((Kept.refl _ _).drewN _), (Kept.refl _ _).drewN _⟩
  · have hp : p < L.length := by omega
    obtain ⟨g, o, rfl, hs0, hcell⟩ := h.at_ (k := p) (by simp; omega)
    have hs : g ≠ b := by omega
    have hcell' : w.cell? ⟨g, o + p, none⟩ = some (.int .i64 L[p]) := by rw [hcell]; simp
    clear hcell
    have f1 := hb.frozen 1
    have fin : ∀ n1 n2, SrcTo w b i64ok (.returned (.int .i64 L[p])) (((w.drewN n1).setCell ⟨b, 1, none⟩ (.int .i64 (p + 1))).drewN n2) := by
      intro n1 n2
      refine ⟨L[p], hL _ (List.getElem_mem hp), rfl, ⟨some ⟨g, o, none⟩, c, p + 1, L, ?_, hn, by omega, ?_, hL⟩, ?_⟩
      · exact (Blk.set_ (w := w.drewN n1) hb 1 _)
      · exact h.kept ((((Kept.refl _ _).drewN n1).setCell (.inl (by simp)) _).drewN n2)
      · exact (((Kept.refl _ _).drewN n1).setCell (.inl (by simp)) _).drewN n2
    have FIN := Lib.hid fin
    clear fin hL h hb
    go_enter Try.func29, Try.ntmps29
    go_wp2
    go_quiet (fail)
    go_wp2
    go_quiet (fail)
    go_wp2
    go_ret
    exact FIN.out _ _

theorem n_any (b : Nat) (n : Int) (w : World) (h : SrcIs w b) (hn : i64ok n) :
    Calls Try.prog 11 #[.pointer (some ⟨b, 0, none⟩), .int .i64 n] w (SrcTo w b fun r => 0 ≤ r ∧ (1 ≤ n → r < n) ∧ (n < 1 → r = 0)) := by
  go_enter Try.func11, Try.ntmps11
  go_wp2_with fail
  refine (raw_any b _ h).mono ?_
  rintro e w1 ⟨r, hr, rfl, hs, hk⟩
  go_wp2_with fail
  refine (mod_any r n _ hr hn).mono ?_
  rintro e w2 ⟨rfl, rfl⟩
  go_wp2_with fail
  go_ret
  exact ⟨_, gmod_bd r n, rfl, hs, hk⟩

/-- Pick: an element of a list of ints. -/
theorem pick_any (b : Nat) (w : World) (h : SrcIs w b) (A : Option Addr) (c : Nat) (l : List Int) (hr : Rd (· ≠ b) w A (l.map (.int .i64))) (h0 : 0 < l.length) (hl : l.length ≤ 1000) :
    Calls Try.prog 12 #[.pointer (some ⟨b, 0, none⟩), .slice A l.length c] w (SrcTo w b fun r => r ∈ l) := by
  obtain ⟨g, o, rfl, hs0, hcell0⟩ := hr (by simpa using h0)
  go_enter Try.func12, Try.ntmps12
  go_wp2_with fail
  refine (n_any b _ _ h ?_).mono ?_
  · unfold i64ok; omega
  rintro e w1 ⟨r, ⟨hr0, hr1, hr2⟩, rfl, hs, hk⟩
  have hr3 : r < l.length := hr1 (by omega)
  clear hr1 hr2
  obtain ⟨k, rfl⟩ := Int.eq_ofNat_of_zero_le hr0
  have hkl : k < l.length := by omega
  have hc : w1.cell? ⟨g, o + k, none⟩ = some (.int .i64 l[k]) := by
    refine hk.cell (hcell0 k _ ?_) hs0
    simp [hkl]
  clear hcell0
  go_wp2_with fail
  go_ret
  exact ⟨l[k], List.getElem_mem hkl, rfl, hs, hk⟩

def NewTo (w : World) (e : Ending) (w' : World) : Prop := ∃ b, e = .returned (.pointer (some ⟨b, 0, none⟩)) ∧ b = w.heap.size ∧ SrcIs w' b ∧ Kept (fun _ => True) w w'
theorem new_any (w : World) (A : Option Addr) (c : Nat) (l : List Int) (hr : Rd (fun _ => True) w A (l.map (.int .i64))) (hlc : l.length ≤ c) (hc : c ≤ maxLen) (hl : ∀ z ∈ l, i64ok z) :
    Calls Try.prog 10 #[.slice A l.length c] w (NewTo w) := by
  have hr' : Rd (fun k => k < w.heap.size) w A (l.map (.int .i64)) := hr.bump.mono fun _ _ h => h.2
  unfold maxLen at hc
  by_cases h2 : 2000 < l.length
  · have fin : NewTo w (.returned (.pointer (some ⟨w.heap.size, 0, none⟩))) (w.alloc (.cells #[.slice A 2000 c, .int .i64 0] 54)) := by
      have hk : Kept (fun _ => True) w (w.alloc (.cells #[.slice A 2000 c, .int .i64 0] 54)) := (Kept.refl _ _).alloc _
      refine ⟨_, rfl, rfl, ⟨A, c, 0, l.take 2000, ?_, by rw [List.length_take]; omega, by omega, ?_, fun z hz => hl z (List.mem_of_mem_take hz)⟩, hk⟩
      · rw [List.length_take, Nat.min_eq_left (by omega)]; exact Blk.new _ _ _
      · refine Rd.kept ?_ (hk.mono fun _ _ _ => trivial)
        intro hn
        obtain ⟨g, o, e, hb, hcc⟩ := hr' (by simp; omega)
        refine ⟨g, o, e, hb, fun j u hu => hcc j u ?_⟩
        rw [List.map_take, List.getElem?_take] at hu
        split at hu
        · exact hu
        · cases hu
    have FIN := Lib.hid fin
    clear fin hl hr hr'
    go_enter Try.func10, Try.ntmps10
    go_wp2
    go_ret
    exact FIN.out
  · have fin : NewTo w (.returned (.pointer (some ⟨w.heap.size, 0, none⟩))) (w.alloc (.cells #[.slice A l.length c, .int .i64 0] 54)) := by
      have hk : Kept (fun _ => True) w (w.alloc (.cells #[.slice A l.length c, .int .i64 0] 54)) := (Kept.refl _ _).alloc _
      refine ⟨_, rfl, rfl, ⟨A, c, 0, l, Blk.new _ _ _, by omega, by omega, ?_, hl⟩, hk⟩
      exact hr'.kept (hk.mono fun _ _ _ => trivial)
    have FIN := Lib.hid fin
    clear fin hl hr hr'
    go_enter Try.func10, Try.ntmps10
    go_wp2
    go_ret
    exact FIN.out
end Go.Proofs.Ytnedeajebhbjbaa
