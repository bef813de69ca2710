import Derived.Test.YtnflkbgappgdiaaEt
import Derived.Test.YtnflkbgappgdiaaSl
import Derived.Test.YtnflkbgappgdiaaSg
namespace Go.Proofs.Ytnflkbgappgdiaa
open Go.RowKit
set_option linter.unusedSimpArgs false
set_option linter.unusedVariables false
/-! ### Lists of the first five carriers -/
def P5 (a b c d e : Int) : List Pr := [⟨carr.getD 0 default, a⟩, ⟨carr.getD 1 default, b⟩, ⟨carr.getD 2 default, c⟩, ⟨carr.getD 3 default, d⟩, ⟨carr.getD 4 default, e⟩]
theorem P5_of {xs : List Pr} (h : xs.length = 5) (hn : ∀ j, j < 5 → (xs.getD j default).name = carr.getD j default) : xs = P5 (xs.getD 0 default).amt (xs.getD 1 default).amt (xs.getD 2 default).amt (xs.getD 3 default).amt (xs.getD 4 default).amt := by
  match xs, h with
  | [p, q, r, s, t], _ =>
    have h0 := hn 0 (by decide); have h1 := hn 1 (by decide); have h2 := hn 2 (by decide); have h3 := hn 3 (by decide); have h4 := hn 4 (by decide)
    simp only [List.getD_cons_zero, List.getD_cons_succ] at h0 h1 h2 h3 h4
    unfold P5
    rw [← h0, ← h1, ← h2, ← h3, ← h4]
    rfl
theorem comb_P5 (a b c d e a' b' c' d' e' : Int) : combI (P5 a b c d e) (P5 a' b' c' d' e') 5 = P5 (a + a') (b + b') (c + c') (d + d') (e + e') := by kernel_rfl
theorem comb_N5 (a b c d e : Int) : combI [] (P5 a b c d e) 5 = P5 a b c d e := by kernel_rfl
theorem comb_5N (a b c d e : Int) : combI (P5 a b c d e) [] 0 = P5 a b c d e := by kernel_rfl
theorem balL_0 (a b c d e : Int) : balL (carr.getD 0 default) (P5 a b c d e) = P5 (0 + (b + (c + (d + (e + 0))))) (-b) (-c) (-d) (-e) := by kernel_rfl
theorem balL_1 (a b c d e : Int) : balL (carr.getD 1 default) (P5 a b c d e) = P5 (-a) (a + (0 + (c + (d + (e + 0))))) (-c) (-d) (-e) := by kernel_rfl
theorem balL_2 (a b c d e : Int) : balL (carr.getD 2 default) (P5 a b c d e) = P5 (-a) (-b) (a + (b + (0 + (d + (e + 0))))) (-d) (-e) := by kernel_rfl
theorem balL_3 (a b c d e : Int) : balL (carr.getD 3 default) (P5 a b c d e) = P5 (-a) (-b) (-c) (a + (b + (c + (0 + (e + 0))))) (-e) := by kernel_rfl
theorem balL_4 (a b c d e : Int) : balL (carr.getD 4 default) (P5 a b c d e) = P5 (-a) (-b) (-c) (-d) (a + (b + (c + (d + (0 + 0))))) := by kernel_rfl
theorem absN_P5 (w : Nat) (hw : w < 5) (a b c d e : Int) : absN (carr.getD w default) (P5 a b c d e) = 0 := by
  match w, hw with
  | 0, _ => show _ = _; kernel_rfl
  | 1, _ => show _ = _; kernel_rfl
  | 2, _ => show _ = _; kernel_rfl
  | 3, _ => show _ = _; kernel_rfl
  | 4, _ => show _ = _; kernel_rfl
theorem badE_nodup' {lo : Int} {xs : List Pr} (h : ∀ p ∈ xs, nameB p.name = true ∧ lo ≤ p.amt ∧ p.amt ≤ 1073741824) (hd : (xs.map Pr.name).Nodup) : badE lo xs = 0 := by
  refine badE_no fun j hj => ?_
  have hm : xs[j] ∈ xs := List.getElem_mem hj
  refine code0 (List.getElem?_eq_getElem hj) (h _ hm).1 ?_ (inB_iff.2 (h _ hm).2)
  refine pos_none (by omega) fun i hi hij => ?_
  simp only [isN, decide_eq_false_iff_not]
  intro e
  have hp := List.pairwise_iff_getElem.1 (show (xs.map Pr.name).Pairwise (· ≠ ·) from hd) i j (by simpa using hi) (by simpa using hj) hij
  simp only [List.getElem_map] at hp
  exact hp e
theorem P5_names (a b c d e : Int) : (P5 a b c d e).map Pr.name = carr.take 5 := rfl
theorem carr_names : (∀ n ∈ carr.take 5, nameB n = true) ∧ (carr.take 5).Nodup := by decide +kernel
/-- The five amounts lie within the bounds. -/
def In5 (lo hi a b c d e : Int) : Prop := (lo ≤ a ∧ a ≤ hi) ∧ (lo ≤ b ∧ b ≤ hi) ∧ (lo ≤ c ∧ c ≤ hi) ∧ (lo ≤ d ∧ d ≤ hi) ∧ (lo ≤ e ∧ e ≤ hi)
theorem badE_P5 {lo a b c d e : Int} (h : In5 lo 1073741824 a b c d e) : badE lo (P5 a b c d e) = 0 := by
  refine badE_nodup' (fun p hp => ⟨carr_names.1 _ ?_, ?_⟩) carr_names.2
  · rw [← P5_names a b c d e]
    exact List.mem_map.2 ⟨p, hp, rfl⟩
  · unfold In5 at h
    unfold P5 at hp
    simp only [List.mem_cons, List.not_mem_nil, or_false] at hp
    rcases hp with rfl | rfl | rfl | rfl | rfl <;> dsimp only <;> omega
theorem partyE_P5 {a b c d e : Int} (h : In5 1 1000 a b c d e) : partyE (P5 a b c d e) = 0 := by
  have h0 : In5 0 1073741824 a b c d e := by unfold In5 at h ⊢; omega
  unfold partyE
  rw [if_neg (by simp [P5]), if_pos (badE_P5 h0), if_neg]
  unfold In5 at h
  show a + (b + (c + (d + (e + 0)))) ≠ 0
  omega
theorem totV_P5 {a b c d e : Int} (h : In5 (-1073741824) 1073741824 a b c d e) : totV (P5 a b c d e) = a + b + c + d + e := by
  unfold In5 at h
  show clip ⟨_, a⟩ + (clip ⟨_, b⟩ + (clip ⟨_, c⟩ + (clip ⟨_, d⟩ + (clip ⟨_, e⟩ + 0)))) = _
  rw [clip_yes (inB_iff.2 h.1), clip_yes (inB_iff.2 h.2.1), clip_yes (inB_iff.2 h.2.2.1), clip_yes (inB_iff.2 h.2.2.2.1), clip_yes (inB_iff.2 h.2.2.2.2)]
  dsimp only
  omega
theorem balE_P5 {a b c d e : Int} (h : In5 (-1073741824) 1073741824 a b c d e) (hs : a + b + c + d + e = 0) : balE (P5 a b c d e) = 0 := by
  unfold balE
  rw [if_neg (by simp [P5]), if_pos (badE_P5 h), totV_P5 h, if_pos hs]
/-- The list of the amounts of a function. -/
abbrev F5 (f : Nat → Int) : List Pr := P5 (f 0) (f 1) (f 2) (f 3) (f 4)
def B5 (lo hi : Int) (f : Nat → Int) : Prop := ∀ k, lo ≤ f k ∧ f k ≤ hi
def S5 (f : Nat → Int) : Int := f 0 + f 1 + f 2 + f 3 + f 4
theorem B5.in5 {lo hi lo' hi' : Int} {f : Nat → Int} (h : B5 lo hi f) (h1 : lo' ≤ lo) (h2 : hi ≤ hi') : In5 lo' hi' (f 0) (f 1) (f 2) (f 3) (f 4) := by
  have a := h 0; have b := h 1; have c := h 2; have d := h 3; have e := h 4
  unfold In5
  omega
theorem F5_congr {f g : Nat → Int} (h : ∀ k, k < 5 → f k = g k) : F5 f = F5 g := by
  unfold F5
  rw [h 0 (by decide), h 1 (by decide), h 2 (by decide), h 3 (by decide), h 4 (by decide)]
theorem balF {f : Nat → Int} {lo hi : Int} (h : B5 lo hi f) (h1 : -1073741824 ≤ lo) (h2 : hi ≤ 1073741824) (hs : S5 f = 0) : balE (F5 f) = 0 := balE_P5 (h.in5 h1 h2) hs
def balB (w : Nat) (n : Int) (a : Nat → Int) (k : Nat) : Int := if k = w then n - a k else -a k
theorem balL_F5 {w : Nat} (hw : w < 5) {a : Nat → Int} {n : Int} (hs : S5 a = n) : balL (carr.getD w default) (F5 a) = F5 (balB w n a) := by
  subst hs
  unfold F5 balB S5
  match w, hw with
  | 0, _ => rw [balL_0]; simp; congr 1; omega
  | 1, _ => rw [balL_1]; simp; congr 1; omega
  | 2, _ => rw [balL_2]; simp; congr 1; omega
  | 3, _ => rw [balL_3]; simp; congr 1; omega
  | 4, _ => rw [balL_4]; simp; congr 1; omega
theorem balance_F5 {w : Nat} (hw : w < 5) {a : Nat → Int} {n : Int} (ha : B5 0 1000 a) (hs : S5 a = n) : balanceV (carr.getD w default) (F5 a) = (F5 (balB w n a), 0) := by
  have h0 := ha.in5 (lo' := 0) (hi' := 1073741824) (by decide) (by decide)
  have h1 := ha.in5 (lo' := -1073741824) (hi' := 1073741824) (by decide) (by decide)
  unfold balanceV
  rw [carr_name w (by omega), if_neg (by decide), absN_P5 w hw, if_neg (by show ¬ 8 < 5 + 0; decide), if_pos (badE_P5 h0), totV_P5 h1, if_neg, balL_F5 hw hs]
  have b0 := ha 0; have b1 := ha 1; have b2 := ha 2; have b3 := ha 3; have b4 := ha 4
  omega
theorem inM_F5 {f : Nat → Int} {lo hi : Int} (h : B5 lo hi f) (h1 : -1073741824 ≤ lo) (h2 : hi ≤ 1073741824) : (F5 f).all (fun p => inM p.amt) = true := by
  have g := h.in5 h1 h2
  unfold In5 at g
  simp only [F5, P5, List.all_cons, List.all_nil, Bool.and_true, Bool.and_eq_true]
  exact ⟨inB_iff.2 g.1, inB_iff.2 g.2.1, inB_iff.2 g.2.2.1, inB_iff.2 g.2.2.2.1, inB_iff.2 g.2.2.2.2⟩
theorem comb_FF {f g : Nat → Int} (hf : B5 (-5000) 5000 f) (hg : B5 (-5000) 5000 g) (sf : S5 f = 0) (sg : S5 g = 0) : combV (F5 f) (F5 g) = (F5 (fun k => f k + g k), 0) := by
  have hb : B5 (-10000) 10000 (fun k => f k + g k) := fun k => by have := hf k; have := hg k; dsimp only; omega
  unfold combV
  rw [balF hf (by decide) (by decide) sf, if_pos rfl, balF hg (by decide) (by decide) sg, if_pos rfl, show (F5 g).length = 5 from rfl, comb_P5, if_neg (by show ¬ 8 < 5; decide)]
  exact if_pos (inM_F5 hb (by decide) (by decide))
theorem comb_NF {g : Nat → Int} (hg : B5 (-5000) 5000 g) (sg : S5 g = 0) : combV [] (F5 g) = (F5 g, 0) := by
  unfold combV
  rw [show balE [] = 0 from rfl, if_pos rfl, balF hg (by decide) (by decide) sg, if_pos rfl, show (F5 g).length = 5 from rfl, comb_N5, if_neg (by show ¬ 8 < 5; decide)]
  exact if_pos (inM_F5 hg (by decide) (by decide))
theorem comb_FN {g : Nat → Int} (hg : B5 (-5000) 5000 g) (sg : S5 g = 0) : combV (F5 g) [] = (F5 g, 0) := by
  unfold combV
  rw [show balE [] = 0 from rfl, if_pos rfl, balF hg (by decide) (by decide) sg, if_pos rfl, show ([] : List Pr).length = 0 from rfl, comb_5N, if_neg (by show ¬ 8 < 5; decide)]
  exact if_pos (inM_F5 hg (by decide) (by decide))
end Go.Proofs.Ytnflkbgappgdiaa
