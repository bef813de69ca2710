import Derived.Test.YtnedeajebhbjbaaRec
namespace Go.Proofs.Ytnedeajebhbjbaa
open Go.RowKit

theorem recsF_bd (f : Nat) : ∀ (done : List (List UInt8)) (p : Nat) (b : List UInt8), p ≤ b.length → done.length * 8 ≤ p →
    (recsF f done p b).2 ≤ b.length ∧ (recsF f done p b).1.length * 8 ≤ (recsF f done p b).2 := by
  induction f with
  | zero => intro done p b h1 h2; exact ⟨h1, h2⟩
  | succ f ih =>
    intro done p b h1 h2
    rw [recsF]
    cases hf : firstL done.length (b.drop p) with
    | none => exact ⟨h1, h2⟩
    | some r =>
      have hl := (firstL_len hf).1
      rw [List.length_drop] at hl
      by_cases hb : 4194304 < p + (r.length + 8)
      · simp only [hb, if_true]; exact ⟨h1, h2⟩
      · simp only [hb, if_false]
        exact ih _ _ _ (by omega) (by rw [List.length_append]; simp; omega)
theorem recs_bd (b : List UInt8) : (recs b).2 ≤ b.length ∧ (recs b).1.length * 8 ≤ (recs b).2 := recsF_bd _ [] 0 b (by omega) (by simp)

def repairL (b : List UInt8) : List UInt8 := b.take (recs b).2

set_option maxRecDepth 100000 in
theorem repair25_any (A : Option Addr) (c : Nat) (b : List UInt8) (w : World) (hr : RdL RB 1 All w A b) (hl : b.length ≤ 5000000) (hc : b.length ≤ c) (hm : c ≤ maxLen) :
    Calls Try.prog 25 #[.slice A b.length c] w (RetB w (repairL b)) := by
  have HR := Lib.hid hr
  have HC := Lib.hid hc
  have HM := Lib.hid hm
  have BD := Lib.hid (recs_bd b)
  go_enter Try.func25, Try.ntmps25
  go_wp2_with fail
  refine (records21_any A c b w hr hl hc hm).mono ?_
  clear hr hc hm
  rintro e w1 ⟨A1, c1, rfl, -, -, -, hk1⟩
  have K1 := Lib.hid hk1
  clear hk1
  go_wp2_with (with_reducible refine wp_at_slice rfl ?_)
  unfold wpStop
  have hle := BD.out.1
  have hcc := HC.out
  refine wpList_cutH RB_good Try.sty22 (HR.out.kept RB_good K1.out) rfl rfl rfl rfl (recs b).2 rfl (by omega) hle ?_
  intro A' hr'
  have HR' := Lib.hid hr'
  have hlen : (recs b).2 = (b.take (recs b).2).length := by rw [List.length_take]; omega
  have HL := Lib.hid hlen
  clear hr' hlen
  go_wp2_with (at_builtin; refine wp_stop ?_)
  unfold wpStop
  refine wpList_app (base := w.heap.size) (S := All) (xs := []) RB_good Try.sty22 Own.nil HR'.out (.inr fun _ _ _ _ h => h) rfl rfl rfl (m := (recs b).2) rfl HL.out ?_ ?_ ?_ ?_
  · rw [List.length_nil, Nat.zero_add]; exact HL.out
  · omega
  · exact K1.out.size
  intro A4 c4 w4 own4 hc4 hm4 hk4 hb4
  rw [List.nil_append] at own4
  have K4 := Lib.hid (K1.out.trans (hk4.mono fun k _ _ => by simp [Value.ownBlock]))
  have OWN4 := Lib.hid own4
  clear own4 hk4 hb4
  go_wp2_with fail
  go_ret
  obtain ⟨A', c', hv, h5, h6, h7⟩ := OWN4.out.rd (S := Fr w) RB_good (fun k hk _ => hk)
  rw [← HL.out] at hv h5
  injection hv with e1 _ e2
  subst e1; subst e2
  refine ⟨A4, c4, ?_, ?_, h6, h7, K4.out⟩
  · rw [repairL, ← HL.out]; rfl
  · rw [repairL, ← HL.out]; exact h5

set_option maxRecDepth 100000 in
theorem repair26_any (A : Option Addr) (c : Nat) (b : List UInt8) (w : World) (hr : RdL RB 1 All w A b) (hl : b.length ≤ 5000000) (hc : b.length ≤ c) (hm : c ≤ maxLen) :
    Calls Try.prog 26 #[.slice A b.length c] w (RetB w (repairL b)) := by
  have HR := Lib.hid hr
  have HC := Lib.hid hc
  have HM := Lib.hid hm
  have BD := Lib.hid (recs_bd b)
  go_enter Try.func26, Try.ntmps26
  go_wp2_with fail
  refine (records24_any A c b w hr hl hc hm).mono ?_
  clear hr hc hm
  rintro e w1 ⟨A1, c1, rfl, -, -, -, hk1⟩
  have K1 := Lib.hid hk1
  clear hk1
  have own0 := Lib.hid (Own.lit (S := All) (e := 5) w1 [] ([] : List UInt8) (R := RB) (sz := 1) Enc.nil RB_good (by unfold maxLen; simp))
  go_wp2_with (with_reducible refine wp_at_slice rfl ?_)
  unfold wpStop
  have hle := BD.out.1
  have hcc := HC.out
  refine wpList_cutH RB_good Try.sty22 (HR.out.kept RB_good (K1.out.alloc (.cells #[] 5))) rfl rfl rfl rfl (recs b).2 rfl (by omega) hle ?_
  intro A' hr'
  have HR' := Lib.hid hr'
  have hlen : (recs b).2 = (b.take (recs b).2).length := by rw [List.length_take]; omega
  have HL := Lib.hid hlen
  clear hr' hlen
  go_wp2_with (at_builtin; refine wp_stop ?_)
  unfold wpStop
  refine wpList_app RB_good Try.sty22 (own0.out.base K1.out.size) HR'.out (.inr fun _ _ _ _ h => h) rfl rfl rfl (m := (recs b).2) rfl HL.out ?_ ?_ ?_ ?_
  · rw [List.length_nil, Nat.zero_add]; exact HL.out
  · omega
  · have := K1.out.size; simp; omega
  intro A4 c4 w4 own4 hc4 hm4 hk4 hb4
  rw [List.nil_append] at own4
  have K4 := Lib.hid ((K1.out.alloc (.cells #[] 5)).through hk4 (own0.out.base K1.out.size) (Nat.le_refl _))
  have OWN4 := Lib.hid own4
  clear own4 hk4 hb4
  go_wp2_with fail
  go_ret
  obtain ⟨A', c', hv, h5, h6, h7⟩ := OWN4.out.rd (S := Fr w) RB_good (fun k hk _ => hk)
  rw [← HL.out] at hv h5
  injection hv with e1 _ e2
  subst e1; subst e2
  refine ⟨A4, c4, ?_, ?_, h6, h7, K4.out⟩
  · rw [repairL, ← HL.out]; rfl
  · rw [repairL, ← HL.out]; exact h5
end Go.Proofs.Ytnedeajebhbjbaa
