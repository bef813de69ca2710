import Derived.Test.YtngfknoddphhaaaLv
import Derived.Test.YtngfknoddphhaaaLs
namespace Go.Proofs.Ytngfknoddphhaaa
open Go.RowKit
set_option linter.unusedSimpArgs false
set_option linter.unusedVariables false

/-- What has been gathered before round i. -/
structure Pcs (i : Nat) (m : List Piece) : Prop where
  asc : AscP m
  ok : ∀ x ∈ m, piB x = true
  below : ∀ x ∈ m, x.plate.lead = 0 ∧ x.plate.airline = 117 ∧ x.plate.serial < 1000 + i
  len : m.length ≤ i
theorem Pcs.zero : Pcs 0 [] := ⟨List.Pairwise.nil, by simp, by simp, by simp⟩
theorem Pcs.skip {i : Nat} {m : List Piece} (h : Pcs i m) : Pcs (i + 1) m :=
  ⟨h.asc, h.ok, fun x hx => by have := h.below x hx; omega, by have := h.len; omega⟩
theorem Pcs.add {i : Nat} {m : List Piece} {w c : Int} (h : Pcs i m) (hi : i < 12) (hw : 1 ≤ w ∧ w ≤ 30) (hc : 0 ≤ c ∧ c ≤ 4) : Pcs (i + 1) (m ++ [⟨platesP i, w, c⟩]) := by
  have hpl := plates_lt (i := i) (by omega)
  refine ⟨?_, fun x hx => ?_, fun x hx => ?_, by have := h.len; simp; omega⟩
  · refine List.pairwise_append.2 ⟨h.asc, List.pairwise_singleton _ _, fun a ha b hb => ?_⟩
    obtain rfl : b = _ := by simpa using hb
    obtain ⟨h1, h2, h3⟩ := h.below a ha
    show PLt a.plate (platesP i)
    rw [hpl]
    unfold PLt
    simp only
    omega
  · rcases List.mem_append.1 hx with hx | hx
    · exact h.ok x hx
    · obtain rfl : x = _ := by simpa using hx
      unfold piB plB inB
      rw [hpl]
      simp
      omega
  · rcases List.mem_append.1 hx with hx | hx
    · have := h.below x hx; omega
    · obtain rfl : x = _ := by simpa using hx
      rw [hpl]
      exact ⟨rfl, rfl, by dsimp only; omega⟩
theorem asc_ne {m : List Piece} (h : AscP m) : m.Pairwise fun a b => a.plate ≠ b.plate :=
  h.imp fun {a b} hab e => by rw [e] at hab; exact PLt.irrefl _ hab
theorem Pcs.force {m : List Piece} (h : Pcs 12 m) {i : Nat} (hi : i < m.length) : putC (withP (m.take i)) m[i] false = (withP (m.take (i + 1)), 0) := by
  have e1 : m.take (i + 1) = m.take i ++ [m[i]] := List.take_succ_eq_append_getElem hi
  have h1 : AscP (m.take (i + 1)) := h.asc.sublist (List.take_sublist _ _)
  have h0 : AscP (m.take i) := h.asc.sublist (List.take_sublist _ _)
  have hne : ∀ x ∈ m.take i, x.plate ≠ m[i].plate := fun x hx => by
    have := asc_ne h1
    rw [e1] at this
    exact (List.pairwise_append.1 this).2.2 x hx _ (by simp)
  have hlen := h.len
  rw [force_step h0 (fun x hx => h.ok x (List.mem_of_mem_take hx)) (h.ok _ (List.getElem_mem hi)) hne (by simp; omega)]
  congr 2
  refine ascP_perm (insL_asc h0 hne) h1 ((insL_perm _ _).trans ?_)
  rw [e1]
  exact (List.perm_append_comm (l₁ := [m[i]])).trans (List.Perm.refl _)
/-- What is forced, and what remains. -/
structure Rst (m c rest : List Piece) : Prop where
  asc : AscP c
  perm : (c ++ rest).Perm m
theorem Rst.zero (m : List Piece) : Rst m [] m := ⟨List.Pairwise.nil, by simp⟩
theorem Rst.force {m c rest : List Piece} (hm : Pcs 12 m) (h : Rst m c rest) {k : Nat} (hk : k < rest.length) :
    putC (withP c) rest[k] false = (withP (insL c rest[k]), 0) ∧ Rst m (insL c rest[k]) (rest.take k ++ rest.drop (k + 1)) := by
  have hd : (c ++ rest).Pairwise fun a b => a.plate ≠ b.plate := (h.perm.pairwise_iff (fun {a b} hab => Ne.symm hab)).2 (asc_ne hm.asc)
  have hne : ∀ x ∈ c, x.plate ≠ rest[k].plate := fun x hx => (List.pairwise_append.1 hd).2.2 x hx _ (List.getElem_mem hk)
  have hin : ∀ x ∈ c ++ rest, piB x = true := fun x hx => hm.ok x (h.perm.mem_iff.1 hx)
  have hl := h.perm.length_eq
  have hlen := hm.len
  rw [List.length_append] at hl
  refine ⟨force_step h.asc (fun x hx => hin x (by simp [hx])) (hin _ (by simp)) hne (by omega), insL_asc h.asc hne, ?_⟩
  have e : (c ++ rest).Perm (rest[k] :: c ++ (rest.take k ++ rest.drop (k + 1))) := by
    have e1 : rest.Perm (rest[k] :: (rest.take k ++ rest.drop (k + 1))) := by
      have := List.perm_middle (a := rest[k]) (l₁ := rest.take k) (l₂ := rest.drop (k + 1))
      rwa [← List.drop_eq_getElem_cons hk, List.take_append_drop] at this
    exact (List.Perm.append_left c e1).trans List.perm_middle
  exact ((List.Perm.append_right _ (insL_perm c rest[k])).trans e.symm).trans h.perm
theorem Rst.len {m c rest : List Piece} (h : Rst m c rest) : c.length + rest.length = m.length := by
  have := h.perm.length_eq
  rwa [List.length_append] at this
theorem Rst.fin {m c : List Piece} (hm : Pcs 12 m) (h : Rst m c []) : c = m := by
  have := h.perm
  rw [List.append_nil] at this
  exact ascP_perm h.asc hm.asc this
theorem piEq_self (p : Piece) : piEq p p = true := by unfold piEq; simp
theorem sameC_self (c : Container) : sameC c c = true := by
  unfold sameC headNe
  rw [show flEq c.flight c.flight = true by unfold flEq; simp]
  simp [piEq_self]
theorem C14s {m m' : List Piece} {p : Piece} (h : putC (withP m) p false = (withP m', 0)) : Fn Try.prog 14 [] [.agg (withP m).av, .agg p.av] [.agg (withP m').av, .v (.int .i64 0)] [] := by
  have := C14 (c := withP m) (p := p)
  rw [h] at this
  exact this
theorem C15k (x : Int) {n : Nat} (h1 : 1 ≤ n) (h2 : n ≤ 100000) : ∃ k : Nat, k < n ∧ Fn Try.prog 15 [] [.v (.int .i64 x), .v (.int .i64 (n : Nat))] [.v (.int .i64 (k : Nat))] [] := by
  have hg := gmod_bd (x := x) (n := (n : Nat)) (by omega)
  refine ⟨(gmod x n).toNat, by omega, ?_⟩
  have := C15 (x := x) (n := (n : Nat)) (by omega)
  rwa [show gmod x n = (((gmod x n).toNat : Nat) : Int) by omega] at this
end Go.Proofs.Ytngfknoddphhaaa
