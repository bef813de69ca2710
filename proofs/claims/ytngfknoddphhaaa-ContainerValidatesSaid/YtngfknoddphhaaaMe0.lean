import Derived.Test.YtngfknoddphhaaaMd
namespace Go.Proofs.Ytngfknoddphhaaa
open Go.RowKit
set_option linter.unusedSimpArgs false
set_option linter.unusedVariables false

theorem fz_cons (cs ds : List Container) : (cs.map oav ++ ds.map Container.av).map (·.map fz1) = (cs ++ ds).map Container.av := by
  rw [List.map_append, List.map_append, List.map_map, List.map_map]
  rfl
theorem flat2_cons (cs ds : List Container) : ∀ r ∈ cs.map oav ++ ds.map Container.av, ∀ c ∈ r, flat2 c := fun r hr c hc => by
  rcases List.mem_append.1 hr with hr | hr
  · obtain ⟨x, _, rfl⟩ := List.mem_map.1 hr
    simp only [List.mem_cons, List.not_mem_nil, or_false] at hc
    rcases hc with rfl | rfl | rfl | rfl | rfl | rfl | rfl | rfl | rfl | rfl | rfl <;> first | exact .inl rfl | exact .inr ⟨_, _, rfl, av_flat _⟩
  · obtain ⟨x, _, rfl⟩ := List.mem_map.1 hr
    simp only [Container.av, List.mem_cons, List.not_mem_nil, or_false] at hc
    rcases hc with rfl | rfl | rfl | rfl | rfl | rfl | rfl | rfl | rfl | rfl | rfl <;> exact .inl rfl
theorem C14e {c d : Container} {p : Piece} {e : Int} (h : putC c p false = (d, e)) : Fn Try.prog 14 [] [.agg c.av, .agg p.av] [.agg d.av, .v (.int .i64 e)] [] := by
  have := C14 (c := c) (p := p)
  rw [h] at this
  exact this
theorem C27s {c d : Container} {p : Plate} {e : Int} (h : remC c p = (d, e)) : Fn Try.prog 27 [] [.agg c.av, .agg p.av] [.agg d.av, .v (.int .i64 e)] [] := by
  have := C27 (c := c) (p := p)
  rw [h] at this
  exact this
theorem get_of {α β : Type} {f : α → β} {xs : List α} {m : Nat} {x : α} (h : xs[m]? = some x) : (xs.map f)[m]? = some (f x) := by simp [h]
theorem conts21 (l : List Int) (k m n : Nat) (hl : l.length ≤ 2000) (hm : m ≤ 23) (hn : n ≤ 100) : ∃ k' cs, Fn Try.prog 21 [.own 64 [srcRow l k]] [.ptr 0 0 0 0, .v (.int .i64 (m : Nat)), .v (.int .i64 (n : Nat))] [.own 29 (cs.map oav)] [.own 64 [srcRow l k']] ∧ InvB n cs ∧ cs.length ≤ m :=
  ⟨_, _, C21 hl (by omega) (by omega), (conts_inv l k m n hm hn).1, by have := idxV_lt l k (n := m + 1) (by omega); rw [(conts_inv l k m n hm hn).2]; omega⟩
end Go.Proofs.Ytngfknoddphhaaa
