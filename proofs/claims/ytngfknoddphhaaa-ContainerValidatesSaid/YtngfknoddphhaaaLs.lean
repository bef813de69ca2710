import Derived.Test.YtngfknoddphhaaaLm
namespace Go.Proofs.Ytngfknoddphhaaa
open Go.RowKit
set_option linter.unusedSimpArgs false
set_option linter.unusedVariables false

/-- What is told of a slice of integers that came in. -/
def IsRow (k : IntKind) (w : World) (a : Option Addr) (len cap : Nat) (zs : List Int) : Prop :=
  (a = none ∧ len = 0 ∧ cap = 0 ∧ zs = []) ∨
  ∃ x, a = some x ∧ len ≤ cap ∧ cap ≤ maxLen ∧ zs.length = cap ∧ (∀ i, i < zs.length → w.cell? (x.add i) = some (.int k (zs.getD i 0))) ∧ ∀ n ∈ zs, (Lit.int k n).wf = true
theorem flat_iv : ∀ l : List Int, (l.map iv).flatten = l.map fun n => AV.v (.int .i64 n)
  | [] => rfl
  | n :: l => by rw [List.map_cons, List.flatten_cons, flat_iv l]; rfl
theorem IsRow.av {w : World} {a : Option Addr} {len cap : Nat} {zs : List Int} (h : IsRow .i64 w a len cap zs) :
    AggOK Try.prog (fun k => k < w.heap.size) w (insT []) [] (.slice a len cap) (.ro ((zs.take len).map iv)) := by
  rcases h with ⟨rfl, rfl, rfl, rfl⟩ | ⟨x, rfl, h1, h2, h3, h4, h5⟩
  · exact rep_ro_nil
  · have hl : (zs.take len).length = len := by rw [List.length_take]; omega
    have hget : ∀ j u, ((zs.take len).map fun n => Value.int .i64 n)[j]? = some u → w.cell? (x.add j) = some u := fun j u hu => by
      rw [List.getElem?_map, List.getElem?_take] at hu
      split at hu
      · have hj : j < zs.length := by omega
        rw [h4 j hj]
        rw [List.getElem?_eq_getElem hj] at hu
        simp at hu
        rw [← hu]
        simp [hj]
      · simp at hu
    have hrep : Rep Try.prog (fun k => k < w.heap.size) w [] (.slice (some x) ((zs.take len).map iv).length cap) (.ro ((zs.take len).map iv)) := by
      refine Rep.ro (us := (zs.take len).map fun n => Value.int .i64 n) (sz := 1) (by rw [List.length_map, hl]; exact h1) h2 (iv_len _) (fun hn => ?_) (by rw [flat_iv, List.length_map, List.length_map]) fun i u y hu hy => ?_
      · have h0 := hget 0 _ (List.getElem?_eq_getElem hn)
        obtain ⟨g, o, sp⟩ := x
        have : sp = none := by simpa [Addr.add] using World.cell?_spot h0
        subst this
        refine ⟨g, o, rfl, World.block_lt_of_cell? w _ h0, fun j u hu => ?_⟩
        have := hget j u hu
        rw [add_off] at this
        exact this
      · rw [flat_iv, List.getElem?_map] at hy
        rw [List.getElem?_map] at hu
        cases hq : (zs.take len)[i]? with
        | none => rw [hq] at hu; cases hu
        | some n =>
          rw [hq] at hu hy
          simp only [Option.map_some, Option.some.injEq] at hu hy
          subst hu; subst hy
          exact Rep.v rfl
    rw [List.length_map, hl] at hrep
    exact hrep
end Go.Proofs.Ytngfknoddphhaaa
