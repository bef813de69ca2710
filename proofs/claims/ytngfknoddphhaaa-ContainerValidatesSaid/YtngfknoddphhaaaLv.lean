import Derived.Test.YtngfknoddphhaaaLu
import Derived.Test.YtngfknoddphhaaaLq
namespace Go.Proofs.Ytngfknoddphhaaa
open Go.RowKit
set_option linter.unusedSimpArgs false
set_option linter.unusedVariables false

/-! ### Forcing pieces in any order -/
def insL (l : List Piece) (p : Piece) : List Piece := l.take (posP l p.plate) ++ p :: l.drop (posP l p.plate)
theorem insL_perm (l : List Piece) (p : Piece) : (insL l p).Perm (p :: l) := by
  unfold insL
  have h : (l.take (posP l p.plate) ++ p :: l.drop (posP l p.plate)).Perm (p :: (l.take (posP l p.plate) ++ l.drop (posP l p.plate))) := List.perm_middle
  rwa [List.take_append_drop] at h
def AscP (l : List Piece) : Prop := l.Pairwise fun a b => PLt a.plate b.plate
theorem ascP_iff {l : List Piece} : AscP l ↔ Asc l := by
  unfold AscP Asc
  rw [List.pairwise_iff_getElem]
theorem ascP_perm : ∀ {l m : List Piece}, AscP l → AscP m → l.Perm m → l = m
  | [], m, _, _, h => (List.nil_perm.1 h).symm
  | a :: l, [], _, _, h => by have := h.length_eq; simp at this
  | a :: l, b :: m, hl, hm, h => by
    have hla := List.pairwise_cons.1 hl
    have hmb := List.pairwise_cons.1 hm
    have e : a = b := by
      have h1 : a ∈ b :: m := h.mem_iff.1 (by simp)
      have h2 : b ∈ a :: l := h.mem_iff.2 (by simp)
      rcases List.mem_cons.1 h1 with h1 | h1
      · exact h1
      · rcases List.mem_cons.1 h2 with h2 | h2
        · exact h2.symm
        · exact absurd ((hmb.1 a h1).trans (hla.1 b h2)) (PLt.irrefl _)
    subst e
    rw [ascP_perm hla.2 hmb.2 (List.perm_cons a |>.1 h)]
theorem posP_cons (a : Piece) (l : List Piece) (p : Plate) : posP (a :: l) p = if cmpP a.plate p < 0 then posP l p + 1 else 0 := by
  unfold posP
  rw [List.takeWhile_cons]
  by_cases h : cmpP a.plate p < 0
  · rw [if_pos h, if_pos (by simpa using h)]; rfl
  · rw [if_neg h, if_neg (by simpa using h)]; rfl
theorem insL_cons (a : Piece) (l : List Piece) (p : Piece) : insL (a :: l) p = if cmpP a.plate p.plate < 0 then a :: insL l p else p :: a :: l := by
  unfold insL
  rw [posP_cons]
  by_cases h : cmpP a.plate p.plate < 0
  · rw [if_pos h, if_pos h]; rfl
  · rw [if_neg h, if_neg h]; rfl
theorem plt_of {p q : Plate} (h : ¬ cmpP p q < 0) (hne : p ≠ q) : PLt q p := by
  rcases cmpP_cases p q with ⟨_, e⟩ | ⟨e, _⟩ | ⟨h, _⟩
  · omega
  · exact absurd e hne
  · exact h
theorem insL_asc : ∀ {l : List Piece} {p : Piece}, AscP l → (∀ x ∈ l, x.plate ≠ p.plate) → AscP (insL l p)
  | [], p, _, _ => by unfold insL AscP; simp [posP]
  | a :: l, p, h, hne => by
    have ha := List.pairwise_cons.1 h
    rw [insL_cons]
    split
    · rename_i hc
      refine List.pairwise_cons.2 ⟨fun x hx => ?_, insL_asc ha.2 fun x hx => hne x (by simp [hx])⟩
      rcases List.mem_cons.1 ((insL_perm l p).mem_iff.1 hx) with rfl | hx
      · exact cmpP_lt.1 hc
      · exact ha.1 x hx
    · rename_i hc
      have hpa := plt_of hc (hne a (by simp))
      refine List.pairwise_cons.2 ⟨fun x hx => ?_, h⟩
      rcases List.mem_cons.1 hx with rfl | hx
      · exact hpa
      · exact hpa.trans (ha.1 x hx)
theorem found_no : ∀ {l : List Piece} {p : Plate}, (∀ x ∈ l, x.plate ≠ p) → foundP l p = false := by
  intro l p h
  unfold foundP
  by_cases hl : posP l p < l.length
  · have : (l.getD (posP l p) default).plate ≠ p := by
      rw [List.getD_eq_getElem?_getD, List.getElem?_eq_getElem hl]
      exact h _ (List.getElem_mem hl)
    rw [show decide ((l.getD (posP l p) default).plate = p) = false from decide_eq_false this, Bool.and_false]
  · rw [show decide ((posP l p : Int) < (l.length : Int)) = false from decide_eq_false (by omega)]; rfl
/-- The container of the examples, with pieces. -/
abbrev withP (m : List Piece) : Container := ⟨7, flight0, 1, 100, 3, 0, 0, m⟩
theorem coB_withP (m : List Piece) : coB (withP m) = true := by
  show coB emptyC = true
  kernel_rfl
theorem withP_val {m : List Piece} (ha : AscP m) (hv : ∀ x ∈ m, piB x = true) (hl : m.length ≤ 60) : valC (withP m) = 0 :=
  val_intro (coB_withP m) hl hv (ascP_iff.1 ha)
theorem force_step {m : List Piece} {p : Piece} (ha : AscP m) (hv : ∀ x ∈ m, piB x = true) (hp : piB p = true) (hne : ∀ x ∈ m, x.plate ≠ p.plate) (hl : m.length < 60) : putC (withP m) p false = (withP (insL m p), 0) := by
  unfold putC
  rw [if_neg (by simp [withP_val ha hv (by omega)]), if_neg (by simp [hp]), if_neg (by rw [show (withP m).pieces = m from rfl, found_no hne]; simp), if_neg (by simp), if_neg (by simp), if_neg (by show ¬ (m.length : Int) ≥ 60; omega)]
  rfl
end Go.Proofs.Ytngfknoddphhaaa
