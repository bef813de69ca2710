import Derived.Test.YtnedeajebhbjbaaSame
namespace Go.Proofs.Ytnedeajebhbjbaa
open Go.RowKit

theorem Own.drew {α : Type} {R : Rel α} {sz base : Nat} {e : TypeId} {S : Nat → Prop} {w : World} {v : Value} {xs : List α} (h : Own R sz e base S w v xs) (hR : Good R sz) : Own R sz e base S w.drew v xs := h.drewN hR 1
theorem RdL.drew {α : Type} {R : Rel α} {sz : Nat} {S : Nat → Prop} {w : World} {A : Option Addr} {xs : List α} (h : RdL R sz S w A xs) (hR : Good R sz) : RdL R sz S w.drew A xs := h.kept hR (Kept.refl _ _).drew
def posL (l : List (List UInt8)) (j : Nat) : Nat := ((l.take j).map (fun r => r.length + 8)).sum
theorem posL_zero (l : List (List UInt8)) : posL l 0 = 0 := by simp [posL]
theorem posL_succ (l : List (List UInt8)) (j : Nat) (h : j < l.length) : posL l (j + 1) = posL l j + l[j].length + 8 := by
  unfold posL
  rw [List.take_succ_eq_append_getElem h, List.map_append, List.sum_append, List.map_singleton, List.sum_singleton]; omega
theorem posL_mono (l : List (List UInt8)) {i j : Nat} (h : i ≤ j) : posL l i ≤ posL l j := by
  induction j with
  | zero => have : i = 0 := by omega
            subst this; exact Nat.le_refl _
  | succ j ih =>
    by_cases he : i = j + 1
    · subst he; exact Nat.le_refl _
    · refine Nat.le_trans (ih (by omega)) ?_
      by_cases hj : j < l.length
      · rw [posL_succ l j hj]; omega
      · have h1 : l.take (j + 1) = l := List.take_of_length_le (by omega)
        have h2 : l.take j = l := List.take_of_length_le (by omega)
        simp [posL, h1, h2]
def startsL (l : List (List UInt8)) (k : Nat) : List Nat := (List.range (k + 1)).map (posL l)
theorem startsL_len (l : List (List UInt8)) (k : Nat) : (startsL l k).length = k + 1 := by simp [startsL]
theorem startsL_get (l : List (List UInt8)) (k j : Nat) (h : j < (startsL l k).length) : (startsL l k)[j] = posL l j := by simp [startsL]
theorem startsL_succ (l : List (List UInt8)) (k : Nat) : startsL l k ++ [posL l (k + 1)] = startsL l (k + 1) := by
  simp [startsL, List.range_succ]

abbrev RI : Rel Nat := flat fun n => [.int .i64 (n : Int)]
theorem RI_good : Good RI 1 := one_good fun _ => rfl
theorem Try.sty23 : Sty Try.prog 23 3 (.int .i64 0) 1 8 := ⟨by kernel_rfl, by kernel_rfl, rfl, by decide, by decide⟩
def RetI (w : World) (xs : List Nat) (e : Ending) (w' : World) : Prop :=
  ∃ A c, e = .returned (.slice A xs.length c) ∧ xs.length ≤ c ∧ c ≤ maxLen ∧ RdL RI 1 (Fr w) w' A xs ∧ Kept All w w'
theorem nat_at {S : Nat → Prop} {w : World} {A : Option Addr} {xs : List Nat} (h : RdL RI 1 S w A xs) {k : Nat} (hk : k < xs.length) :
    ∃ g o, A = some ⟨g, o, none⟩ ∧ S g ∧ w.cell? ⟨g, o + k, none⟩ = some (.int .i64 (xs[k] : Int)) := by
  obtain ⟨g, o, u, hA, hs, hc, hr⟩ := h.at1 hk RI_good
  refine ⟨g, o, hA, hs, ?_⟩
  have : [u] = [.int .i64 (xs[k] : Int)] := hr
  injection this with h1
  rw [hc, h1]

set_option maxRecDepth 100000 in
set_option maxHeartbeats 1000000 in
theorem frames_any (A : Option Addr) (n c : Nat) (l : List (List UInt8)) (w : World) (hr : RdL RBs 1 All w A l) (hn : n = l.length) (hl : l.length ≤ 5000000) (hp : posL l l.length ≤ 1000000000) :
    Calls Try.prog 22 #[.slice A n c] w (RetI w (startsL l l.length)) := by
  subst hn
  have H := Lib.hid hr
  have R0 := Lib.hid (show Own RI 1 3 w.heap.size All (w.alloc (.cells #[.int .i64 0] 3)) (.slice (some ⟨w.heap.size, 0, none⟩) 1 1) (startsL l 0) from Own.lit w [.int .i64 0] (startsL l 0) (by
    have h := Enc.flat1 (f := fun n : Nat => Value.int .i64 (n : Int)) (S := fun k => True ∧ k < w.heap.size) (w := w) [0]
    have e : startsL l 0 = [0] := by simp [startsL, posL]
    rw [e]; exact h) RI_good (by rw [startsL_len]; unfold maxLen; omega))
  clear hr
  go_enter Try.func22, Try.ntmps22
  go_wp2_with fail
  go_loopw [3, 8] (fun v x wr => ∃ (A1 : Option Addr) (c1 k : Nat), k ≤ l.length ∧ v = .slice A1 (k + 1) c1 ∧ x = .int .i64 k ∧ Hid (Own RI 1 3 w.heap.size All wr (.slice A1 (k + 1) c1) (startsL l k)) ∧ Hid (Kept All w wr)) (fun _ x _ => l.length - (intOf x).toNat)
  case atStart => exact ⟨_, 1, 0, by omega, rfl, rfl, R0, Lib.hid ((Kept.refl _ _).alloc _)⟩
  case round =>
    obtain ⟨A1, c1, k, hk, rfl, rfl, HOWN, HK⟩ := hrel
    clear R0
    by_cases hlt : k < l.length
    · obtain ⟨g, o, A2, c2, hA, hc1, -, -, -⟩ := list_at (H.out.kept RBs_good HK.out) hlt
      subst hA
      have hsucc := posL_succ l k hlt
      have hmono := posL_mono l (i := k + 1) (j := l.length) hlt
      obtain ⟨A', c', hv, h5, h6, h7⟩ := HOWN.out.rd (S := All) RI_good (fun _ _ _ => trivial)
      rw [startsL_len] at hv h5
      injection hv with e1 _ e2
      subst e1; subst e2
      obtain ⟨g', o', hA, -, hc2⟩ := nat_at h7 (k := k) (by rw [startsL_len]; omega)
      rw [startsL_get] at hc2
      subst hA
      generalize l[k] = r at *
      have HS := Lib.hid hsucc
      have hb : posL l k + r.length + 8 ≤ 1000000000 := by omega
      clear hsucc hmono h5 h6 h7
      have p1 : (k : Int) < (l.length : Int) := by omega
      have p2 : (k : Int) < (k : Int) + 1 := by omega
      have q1 : IntKind.i64.wrap ((posL l k : Int) + (r.length : Int)) = (posL l k : Int) + (r.length : Int) := IntWalk.i64_in _ (by omega)
      have q2 : IntKind.i64.wrap ((posL l k : Int) + (r.length : Int) + 8) = (posL l k : Int) + (r.length : Int) + 8 := IntWalk.i64_in _ (by omega)
      have LIT := Lib.hid (RdL.lit (e := 3) (S := All) (Enc.flat1 (f := fun n : Nat => Value.int .i64 (n : Int)) (S := All) (w := wr) [posL l k + r.length + 8]) RI_good trivial)
      go_wp2_with fail
      go_region_law (refine step_app RI_good Try.sty23 ((HOWN.out.alloc RI_good _).drew RI_good) (LIT.out.drew RI_good) (.inr fun _ _ _ _ h => h) rfl rfl rfl (m := k + 2) rfl rfl ?_ ?_ ?_ ?_; (rw [startsL_len]; rfl); omega; (have := HK.out.size; simp; omega); intro A4 c4 w4 own4 hc4 hm4 hk4 hb4)
      all_goals
        have kw := ((HK.out.alloc (.cells (List.map (fun n : Nat => Value.int IntKind.i64 (n : Int)) [posL l k + r.length + 8]).toArray 3)).drew).through hk4 ((HOWN.out.alloc RI_good _).drew RI_good) (Nat.le_refl _)
        rw [← HS.out, startsL_succ] at own4
        have OWN4 := Lib.hid own4
        have KW4 := Lib.hid kw
        clear own4 hk4 hb4 kw
        go_wp2_with fail
        exact ⟨⟨A4, c4, k + 1, by omega, rfl, by go_num, OWN4, KW4⟩, by simp [intOf]; omega⟩
    · obtain rfl : k = l.length := by omega
      go_wp2_with fail
      go_ret
      obtain ⟨A', c', hv, h5, h6, h7⟩ := HOWN.out.rd (S := Fr w) RI_good (fun k hk _ => hk)
      rw [startsL_len] at hv h5
      injection hv with e1 _ e2
      subst e1; subst e2
      refine ⟨A1, c1, ?_, by rw [startsL_len]; exact h5, h6, h7, HK.out⟩
      rw [startsL_len]; rfl
end Go.Proofs.Ytnedeajebhbjbaa
