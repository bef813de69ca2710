import Derived.Test.YtngfknoddphhaaaLi
import Derived.Test.YtngfknoddphhaaaAbD
namespace Go.Proofs.Ytngfknoddphhaaa
open Go.RowKit
set_option linter.unusedSimpArgs false
set_option linter.unusedVariables false

def PLt (p q : Plate) : Prop := p.lead < q.lead ∨ (p.lead = q.lead ∧ (p.airline < q.airline ∨ (p.airline = q.airline ∧ p.serial < q.serial)))
theorem or3 (a b c : Int) : orL [a, b, c] = if a ≠ 0 then a else if b ≠ 0 then b else c := by
  unfold orL
  by_cases h1 : a = 0 <;> by_cases h2 : b = 0 <;> by_cases h3 : c = 0 <;> simp [h1, h2, h3]
theorem cmpI_cases (a b : Int) : (a < b ∧ cmpI a b = -1) ∨ (a = b ∧ cmpI a b = 0) ∨ (b < a ∧ cmpI a b = 1) := by
  unfold cmpI
  by_cases h1 : a < b
  · rw [if_pos h1]; exact .inl ⟨h1, rfl⟩
  · rw [if_neg h1]
    by_cases h2 : a > b
    · rw [if_pos h2]; exact .inr (.inr ⟨h2, rfl⟩)
    · rw [if_neg h2]; exact .inr (.inl ⟨by omega, rfl⟩)
theorem cmpP_cases (p q : Plate) : (PLt p q ∧ cmpP p q = -1) ∨ (p = q ∧ cmpP p q = 0) ∨ (PLt q p ∧ cmpP p q = 1) := by
  obtain ⟨a, b, c⟩ := p
  obtain ⟨a', b', c'⟩ := q
  unfold cmpP PLt
  rw [or3]
  simp only [Plate.mk.injEq]
  rcases cmpI_cases a a' with ⟨h1, e1⟩ | ⟨h1, e1⟩ | ⟨h1, e1⟩ <;> rcases cmpI_cases b b' with ⟨h2, e2⟩ | ⟨h2, e2⟩ | ⟨h2, e2⟩ <;> rcases cmpI_cases c c' with ⟨h3, e3⟩ | ⟨h3, e3⟩ | ⟨h3, e3⟩ <;> simp [e1, e2, e3] <;> omega
theorem PLt.trans {p q r : Plate} (h : PLt p q) (h' : PLt q r) : PLt p r := by unfold PLt at *; omega
theorem PLt.irrefl (p : Plate) : ¬ PLt p p := by unfold PLt; omega
theorem cmpP_lt {p q : Plate} : cmpP p q < 0 ↔ PLt p q := by
  rcases cmpP_cases p q with ⟨h, e⟩ | ⟨h, e⟩ | ⟨h, e⟩
  · simp [h, e]
  · subst h; simp [e, PLt.irrefl]
  · rw [e]; exact ⟨fun h => by omega, fun h' => absurd (h.trans h') (PLt.irrefl _)⟩
/-- Ascending by the plates. -/
def Asc (l : List Piece) : Prop := ∀ (i j : Nat) (hi : i < l.length) (hj : j < l.length), i < j → PLt l[i].plate l[j].plate
theorem Asc.of_next {l : List Piece} (h : ∀ (i : Nat) (hi : i + 1 < l.length), PLt l[i].plate l[i + 1].plate) : Asc l := by
  intro i j hi hj hij
  induction j with
  | zero => omega
  | succ j ih =>
    by_cases e : i = j
    · subst e; exact h i hj
    · exact (ih (by omega) (by omega)).trans (h j hj)
theorem Asc.mono {l : List Piece} (h : Asc l) (q : Plate) : Mono l q := fun i j hi hj hij hlt => by
  rw [cmpP_lt] at *
  by_cases e : i = j
  · subst e; exact hlt
  · exact (h i j hi hj (by omega)).trans hlt
theorem val_inv {c : Container} (h : valC c = 0) : coB c = true ∧ c.pieces.length ≤ 60 ∧ (∀ p ∈ c.pieces, piB p = true) ∧ Asc c.pieces := by
  unfold valC at h
  split at h
  · cases h
  · split at h
    · cases h
    · rename_i h1 h2
      have hz : ∀ k, k < c.pieces.length → errI c.pieces k = 0 := by
        unfold valP orL at h
        intro k hk
        cases hf : ((List.range c.pieces.length).map (errI c.pieces)).find? (fun x => decide (x ≠ 0)) with
        | none =>
          have := List.find?_eq_none.1 hf (errI c.pieces k) (List.mem_map_of_mem (List.mem_range.2 hk))
          simpa using this
        | some x =>
          rw [hf] at h
          have := List.find?_some hf
          simp only [Option.getD_some] at h
          simp [h] at this
      have hp : ∀ k (hk : k < c.pieces.length), piB c.pieces[k] = true := fun k hk => by
        have := hz k hk
        rw [errI_at hk] at this
        split at this
        · cases this
        · rename_i h; simpa using h
      refine ⟨by simpa using h1, by omega, fun p hp' => ?_, Asc.of_next fun i hi => ?_⟩
      · obtain ⟨k, hk, rfl⟩ := List.getElem_of_mem hp'
        exact hp k hk
      · have := hz (i + 1) hi
        rw [errI_at hi, if_neg (by simp [hp (i + 1) hi]), if_neg (by omega)] at this
        simp only [Nat.add_sub_cancel] at this
        rcases cmpP_cases c.pieces[i].plate c.pieces[i + 1].plate with ⟨h, e⟩ | ⟨h, e⟩ | ⟨h, e⟩
        · exact h
        · rw [if_pos e] at this; cases this
        · rw [if_neg (by omega), if_pos e] at this; cases this
theorem piB_inv {p : Piece} (h : piB p = true) : plB p.plate = true ∧ 1 ≤ p.weight ∧ p.weight ≤ 999 ∧ 0 ≤ p.category ∧ p.category ≤ 4 := by
  unfold piB inB at h
  simp only [Bool.and_eq_true, decide_eq_true_eq, ge_iff_le] at h
  exact ⟨h.1.1, by omega, by omega, by omega, by omega⟩
theorem val_w {c : Container} (h : valC c = 0) : ∀ p ∈ c.pieces, 0 ≤ p.weight ∧ p.weight ≤ 1000 := fun p hp => by
  have := piB_inv ((val_inv h).2.2.1 p hp); omega
end Go.Proofs.Ytngfknoddphhaaa
