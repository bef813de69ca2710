import Derived.Test.YtngfknoddphhaaaAb24
namespace Go.Proofs.Ytngfknoddphhaaa
open Go.RowKit
set_option linter.unusedSimpArgs false
set_option linter.unusedVariables false

/-- Where the fields of a struct lie, and how long they are. -/
def plIs (P : Program) (t : TypeId) (pl : List (Nat × Nat)) : Prop := ∃ fs, P.underlying t = some (.struct fs) ∧ fs.toList.mapM (fun f => (P.info? f.type).map fun i => (f.offset, i.size)) = some pl
theorem op_build2 {C : Cx} {o : Oper} {ev : Operand → AV} {T : Sl} {t : TypeId} {n b : Nat} {z : Value} {ps : Array (Nat × Operand)} {pl : List (Nat × Nat)} (ho : o.op = .build t ps) (hpl : plIs C.P t pl) (hz : zeroIs C.P t z n b) (rows : List (Nat × List AV))
    (hp : ps.toList.map (fun p => (p.1, rowR (ev p.2))) = rows.map (fun p => (p.1, some p.2))) (hr : rows.all (fun p => match pl[p.1]? with | some (off, sz) => p.2.length == sz && off + sz ≤ n | none => false) = true) {xs : List AV} (hx : rows.foldl (fun cs p => splice cs ((pl[p.1]?).getD (0, 0)).1 p.2) (z.cells.toList.map .v) = xs) :
    OpP C o ev T (.agg xs) := by
  obtain ⟨fs, h1, h2⟩ := hpl
  exact op_build ho rows h1 h2 hz hp hr hx
end Go.Proofs.Ytngfknoddphhaaa
