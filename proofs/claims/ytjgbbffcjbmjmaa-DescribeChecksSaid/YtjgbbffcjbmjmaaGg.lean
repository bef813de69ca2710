import Derived.Test.YtjgbbffcjbmjmaaFz
import Derived.Test.YtjgbbffcjbmjmaaAbR
namespace Go.Proofs.Ytjgbbffcjbmjmaa
open Go.RowKit
set_option linter.unusedSimpArgs false
set_option linter.unusedVariables false

/-! ### Bent matchings -/
abbrev w64 (n : Int) : Int := IntKind.i64.wrap n
def bR4 : List Int := [-1, 1, 10, 1073741824]
def bC4 : List Int := [-1, 1, -30, 1073741824]
abbrev ixV (l : List Int) (k n : Nat) : Nat := (gmod (rawV l (rawN l k)) (n : Nat)).toNat
def bentF (l : List Int) (k : Nat) (m : Mat) : Mat × Nat :=
  if gmod (rawV l k) 6 = 0 then ({ m with total := w64 (m.total + (gmod (rawV l (rawN l k)) 3 - 1)) }, it2 l k)
  else if gmod (rawV l k) 6 = 1 then (if 0 < m.pairs.length then ({ m with pairs := m.pairs.set (ixV l k m.pairs.length) (gmod (rawV l (it2 l k)) 6 - 2) }, rawN l (it2 l k)) else (m, rawN l k))
  else if gmod (rawV l k) 6 = 2 then (if 0 < m.rows.length then ({ m with rows := m.rows.set (ixV l k m.rows.length) (w64 (gI m.rows (ixV l k m.rows.length) + pickV l (it2 l k) bR4)) }, rawN l (it2 l k)) else (m, rawN l k))
  else if gmod (rawV l k) 6 = 3 then (if 0 < m.cols.length then ({ m with cols := m.cols.set (ixV l k m.cols.length) (w64 (gI m.cols (ixV l k m.cols.length) + pickV l (it2 l k) bC4)) }, rawN l (it2 l k)) else (m, rawN l k))
  else if gmod (rawV l k) 6 = 4 then ({ m with cols := m.cols ++ [0] }, rawN l k)
  else (if 0 < m.rows.length ∧ 0 < m.cols.length then ({ m with rows := m.rows.set 0 (w64 (gI m.rows 0 + 1)), cols := m.cols.set 0 (w64 (gI m.cols 0 - 1)) }, rawN l k) else (m, rawN l k))
theorem bent_len {l : List Int} {k : Nat} {m : Mat} : (bentF l k m).1.pairs.length = m.pairs.length ∧ (bentF l k m).1.rows.length = m.rows.length ∧ (bentF l k m).1.cols.length ≤ m.cols.length + 1 := by
  unfold bentF
  repeat' split
  all_goals (dsimp only; simp)
def okS (n : Nat) (p : Option Addr × Nat) : Prop := (0 < n → ∃ g : Nat, p.1 = some ⟨g, 0, none⟩) ∧ (n = 0 → p.2 = 0)
theorem C27 {l : List Int} {k : Nat} {m : Mat} (hl : l.length ≤ 2000) (hp : m.pairs.length ≤ 1000) (hr : m.rows.length ≤ 1000) (hc0 : m.cols.length ≤ 1000) : Fn Try.prog 27 [.own 58 [srcRow l k]] [.ptr 0 0 0 0, .agg m.av] [.agg (bentF l k m).1.av] [.own 58 [srcRow l (bentF l k m).2]] := by
  refine Spec.body Try.func27 rfl Try.ntmps27 (by simp) rfl ?_; intro S0 own0 v0 w0
  (refine AW.seq_k ?_; intro K hK)
  refine AW.region ?_
  refine awJ (OpJ.frzP (row := m.av) (op_box rfl rfl rfl sz42 rfl) m.flat) ?_; (try simp only [nA, Nat.reduceBEq, Nat.reduceEqDiff, ↓reduceIte, Nat.reduceAdd, Nat.reduceSub])
  refine awJ (op_alloc rfl ze42 rfl) ?_; (try simp only [nA, Nat.reduceBEq, Nat.reduceEqDiff, ↓reduceIte, Nat.reduceAdd, Nat.reduceSub])
  refine AWL.nil ?_
  (refine hK _ ?_; clear hK K; (try simp only [nA, Nat.reduceBEq, Nat.reduceEqDiff, ↓reduceIte, Nat.reduceAdd, Nat.reduceSub]))
  refine AW.gh Gh.reserve ?_; refine AW.gh Gh.reserve ?_; refine AW.gh Gh.reserve ?_; refine AW.gh Gh.reserve ?_; (try simp only [nA, Nat.reduceBEq, Nat.reduceEqDiff, ↓reduceIte, Nat.reduceAdd, Nat.reduceSub])
  refine AW.join (ι := (Option Addr × Nat) × (Option Addr × Nat) × (Option Addr × Nat) × Nat × Nat × Nat × Nat × Nat) (fun z => [(0, .ptr 0 0 0 0), (4, .ptr 1 1 0 0), (5, .ptr 5 z.2.2.2.2.2.2.1 0 0)]) (fun z => ⟨[(0, .own 58 [srcRow l k]), (1, .own 42 [[.v (.slice none 0 0), .v (.slice none 0 0), .v (.slice none 0 0), .v (.int .i64 0)]]), (z.2.2.2.1, nmE (.slice z.1.1 m.pairs.length z.1.2) 3 (m.pairs.map iv)), (z.2.2.2.2.1, nmE (.slice z.2.1.1 m.rows.length z.2.1.2) 3 (m.rows.map iv)), (z.2.2.2.2.2.1, nmE (.slice z.2.2.1.1 m.cols.length z.2.2.1.2) 3 (m.cols.map iv)), (z.2.2.2.2.2.2.1, .own 42 [[.v (.slice z.1.1 m.pairs.length z.1.2), .v (.slice z.2.1.1 m.rows.length z.2.1.2), .v (.slice z.2.2.1.1 m.cols.length z.2.2.1.2), .v (.int .i64 m.total)]])], z.2.2.2.2.2.2.2⟩) (fun z => okS m.pairs.length z.1 ∧ okS m.rows.length z.2.1 ∧ okS m.cols.length z.2.2.1) ?_ ?_
  ·
    refine AW.ax (fun _ => True) mix rfl ?_
    refine axP 1 rfl (fun T' ok => op_fa_rop rfl rfl fl42_0 (by exact sz23) (by decide) (Nat.le_of_ble_eq_true rfl) rfl) trivial (by kernel_rfl) (by kernel_rfl) ?_; (try simp only [nA, Nat.reduceBEq, Nat.reduceEqDiff, ↓reduceIte, Nat.reduceAdd, Nat.reduceSub])
    refine axR 2 rfl (fun T' ok => op_load_rop1 rfl rfl ag23) trivial (by kernel_rfl) (by kernel_rfl) ?_; (try simp only [nA, Nat.reduceBEq, Nat.reduceEqDiff, ↓reduceIte, Nat.reduceAdd, Nat.reduceSub])
    refine axP 5 rfl (fun T' ok => op_fa_rop rfl rfl fl42_1 (by exact sz23) (by decide) (Nat.le_of_ble_eq_true rfl) rfl) trivial (by kernel_rfl) (by kernel_rfl) ?_; (try simp only [nA, Nat.reduceBEq, Nat.reduceEqDiff, ↓reduceIte, Nat.reduceAdd, Nat.reduceSub])
    refine axR 6 rfl (fun T' ok => op_load_rop1 rfl rfl ag23) trivial (by kernel_rfl) (by kernel_rfl) ?_; (try simp only [nA, Nat.reduceBEq, Nat.reduceEqDiff, ↓reduceIte, Nat.reduceAdd, Nat.reduceSub])
    refine axP 9 rfl (fun T' ok => op_fa_rop rfl rfl fl42_2 (by exact sz23) (by decide) (Nat.le_of_ble_eq_true rfl) rfl) trivial (by kernel_rfl) (by kernel_rfl) ?_; (try simp only [nA, Nat.reduceBEq, Nat.reduceEqDiff, ↓reduceIte, Nat.reduceAdd, Nat.reduceSub])
    refine axR 10 rfl (fun T' ok => op_load_rop1 rfl rfl ag23) trivial (by kernel_rfl) (by kernel_rfl) ?_; (try simp only [nA, Nat.reduceBEq, Nat.reduceEqDiff, ↓reduceIte, Nat.reduceAdd, Nat.reduceSub])
    refine axP 12 rfl (fun T' ok => op_fa_rop rfl rfl fl42_3 (by exact sz3) (by decide) (Nat.le_of_ble_eq_true rfl) rfl) trivial (by kernel_rfl) (by kernel_rfl) ?_; (try simp only [nA, Nat.reduceBEq, Nat.reduceEqDiff, ↓reduceIte, Nat.reduceAdd, Nat.reduceSub])
    refine axR 13 rfl (fun T' ok => op_load_rop1 rfl rfl ag3) trivial (by kernel_rfl) (by kernel_rfl) ?_; (try simp only [nA, Nat.reduceBEq, Nat.reduceEqDiff, ↓reduceIte, Nat.reduceAdd, Nat.reduceSub])
    refine axF 0 rfl (fun T' ok => op_lit0 rfl Try.underlying23 sz3) trivial (by kernel_rfl) (by kernel_rfl) ?_; (try simp only [nA, Nat.reduceBEq, Nat.reduceEqDiff, ↓reduceIte, Nat.reduceAdd, Nat.reduceSub])
    refine axF 4 rfl (fun T' ok => op_lit0 rfl Try.underlying23 sz3) trivial (by kernel_rfl) (by kernel_rfl) ?_; (try simp only [nA, Nat.reduceBEq, Nat.reduceEqDiff, ↓reduceIte, Nat.reduceAdd, Nat.reduceSub])
    refine axF 8 rfl (fun T' ok => op_lit0 rfl Try.underlying23 sz3) trivial (by kernel_rfl) (by kernel_rfl) ?_; (try simp only [nA, Nat.reduceBEq, Nat.reduceEqDiff, ↓reduceIte, Nat.reduceAdd, Nat.reduceSub])
    refine ax2 3 15 (by kernel_rfl) ?_ ?_
    ·
      refine AXi.mk (i := 3) rfl (op_app_e 2 rfl rfl rfl rfl .ro Try.underlying23 ze3 (by decide) (iv_len _) (by simp; omega) (by decide) (n := m.pairs.length) (by simp)) ?_; rintro _ _ ⟨A1, c1, hA1, hz1, rfl, rfl⟩; refine ⟨trivial, ?_⟩; (try simp only [nA, Nat.reduceBEq, Nat.reduceEqDiff, ↓reduceIte, Nat.reduceAdd, Nat.reduceSub])
      refine ax2 7 15 (by kernel_rfl) ?_ ?_
      ·
        refine AXi.mk (i := 7) rfl (op_app_e 3 rfl rfl rfl rfl .ro Try.underlying23 ze3 (by decide) (iv_len _) (by simp; omega) (by decide) (n := m.rows.length) (by simp)) ?_; rintro _ _ ⟨A2, c2, hA2, hz2, rfl, rfl⟩; refine ⟨trivial, ?_⟩; (try simp only [nA, Nat.reduceBEq, Nat.reduceEqDiff, ↓reduceIte, Nat.reduceAdd, Nat.reduceSub])
        refine ax2 11 15 (by kernel_rfl) ?_ ?_
        ·
          refine AXi.mk (i := 11) rfl (op_app_e 4 rfl rfl rfl rfl .ro Try.underlying23 ze3 (by decide) (iv_len _) (by simp; omega) (by decide) (n := m.cols.length) (by simp)) ?_; rintro _ _ ⟨A3, c3, hA3, hz3, rfl, rfl⟩; refine ⟨trivial, ?_⟩; (try simp only [nA, Nat.reduceBEq, Nat.reduceEqDiff, ↓reduceIte, Nat.reduceAdd, Nat.reduceSub]); refine axP 14 rfl (fun T' ok => op_build2 (xs := [_, _, _, _]) rfl pl42 ze42 [(0, [_]), (1, [_]), (2, [_]), (3, [_])] rfl rfl rfl) trivial (by kernel_rfl) (by kernel_rfl) ?_; (try simp only [nA, Nat.reduceBEq, Nat.reduceEqDiff, ↓reduceIte, Nat.reduceAdd, Nat.reduceSub])
          refine ax1 15 (by kernel_rfl) ?_; refine AXi.mkJ (i := 15) rfl (OpJ.atP 5 rfl (op_alloc rfl ze42 rfl) rfl) trivial ?_; (try simp only [nA, Nat.reduceBEq, Nat.reduceEqDiff, ↓reduceIte, Nat.reduceAdd, Nat.reduceSub])
          refine ax1 16 (by kernel_rfl) ?_; refine AXi.mkJ (i := 16) rfl (op_store rfl rfl rfl rfl rfl rfl sz42 rfl (Nat.le_of_ble_eq_true rfl) rfl) trivial ?_; (try simp only [nA, Nat.reduceBEq, Nat.reduceEqDiff, ↓reduceIte, Nat.reduceAdd, Nat.reduceSub]); refine axDone (by kernel_rfl) ?_; exact ⟨((A1, c1), (A2, c2), (A3, c3), _, _, _, _, _), ⟨⟨hA1, hz1⟩, ⟨hA2, hz2⟩, ⟨hA3, hz3⟩⟩, ⟨rfl, rfl, rfl, trivial⟩, rfl, rfl⟩
        ·
          refine AXi.mkJ (i := 15) rfl (OpJ.atP 5 rfl (op_alloc rfl ze42 rfl) rfl) trivial ?_; (try simp only [nA, Nat.reduceBEq, Nat.reduceEqDiff, ↓reduceIte, Nat.reduceAdd, Nat.reduceSub])
          refine ax1 11 (by kernel_rfl) ?_; refine AXi.mk (i := 11) rfl (op_app_e 4 rfl rfl rfl rfl .ro Try.underlying23 ze3 (by decide) (iv_len _) (by simp; omega) (by decide) (n := m.cols.length) (by simp)) ?_; rintro _ _ ⟨A3, c3, hA3, hz3, rfl, rfl⟩; refine ⟨trivial, ?_⟩; (try simp only [nA, Nat.reduceBEq, Nat.reduceEqDiff, ↓reduceIte, Nat.reduceAdd, Nat.reduceSub]); refine axP 14 rfl (fun T' ok => op_build2 (xs := [_, _, _, _]) rfl pl42 ze42 [(0, [_]), (1, [_]), (2, [_]), (3, [_])] rfl rfl rfl) trivial (by kernel_rfl) (by kernel_rfl) ?_; (try simp only [nA, Nat.reduceBEq, Nat.reduceEqDiff, ↓reduceIte, Nat.reduceAdd, Nat.reduceSub])
          refine ax1 16 (by kernel_rfl) ?_; refine AXi.mkJ (i := 16) rfl (op_store rfl rfl rfl rfl rfl rfl sz42 rfl (Nat.le_of_ble_eq_true rfl) rfl) trivial ?_; (try simp only [nA, Nat.reduceBEq, Nat.reduceEqDiff, ↓reduceIte, Nat.reduceAdd, Nat.reduceSub]); refine axDone (by kernel_rfl) ?_; exact ⟨((A1, c1), (A2, c2), (A3, c3), _, _, _, _, _), ⟨⟨hA1, hz1⟩, ⟨hA2, hz2⟩, ⟨hA3, hz3⟩⟩, ⟨rfl, rfl, rfl, trivial⟩, rfl, rfl⟩
      ·
        refine AXi.mkJ (i := 15) rfl (OpJ.atP 5 rfl (op_alloc rfl ze42 rfl) rfl) trivial ?_; (try simp only [nA, Nat.reduceBEq, Nat.reduceEqDiff, ↓reduceIte, Nat.reduceAdd, Nat.reduceSub])
        refine ax1 7 (by kernel_rfl) ?_; refine AXi.mk (i := 7) rfl (op_app_e 3 rfl rfl rfl rfl .ro Try.underlying23 ze3 (by decide) (iv_len _) (by simp; omega) (by decide) (n := m.rows.length) (by simp)) ?_; rintro _ _ ⟨A2, c2, hA2, hz2, rfl, rfl⟩; refine ⟨trivial, ?_⟩; (try simp only [nA, Nat.reduceBEq, Nat.reduceEqDiff, ↓reduceIte, Nat.reduceAdd, Nat.reduceSub])
        refine ax1 11 (by kernel_rfl) ?_; refine AXi.mk (i := 11) rfl (op_app_e 4 rfl rfl rfl rfl .ro Try.underlying23 ze3 (by decide) (iv_len _) (by simp; omega) (by decide) (n := m.cols.length) (by simp)) ?_; rintro _ _ ⟨A3, c3, hA3, hz3, rfl, rfl⟩; refine ⟨trivial, ?_⟩; (try simp only [nA, Nat.reduceBEq, Nat.reduceEqDiff, ↓reduceIte, Nat.reduceAdd, Nat.reduceSub]); refine axP 14 rfl (fun T' ok => op_build2 (xs := [_, _, _, _]) rfl pl42 ze42 [(0, [_]), (1, [_]), (2, [_]), (3, [_])] rfl rfl rfl) trivial (by kernel_rfl) (by kernel_rfl) ?_; (try simp only [nA, Nat.reduceBEq, Nat.reduceEqDiff, ↓reduceIte, Nat.reduceAdd, Nat.reduceSub])
        refine ax1 16 (by kernel_rfl) ?_; refine AXi.mkJ (i := 16) rfl (op_store rfl rfl rfl rfl rfl rfl sz42 rfl (Nat.le_of_ble_eq_true rfl) rfl) trivial ?_; (try simp only [nA, Nat.reduceBEq, Nat.reduceEqDiff, ↓reduceIte, Nat.reduceAdd, Nat.reduceSub]); refine axDone (by kernel_rfl) ?_; exact ⟨((A1, c1), (A2, c2), (A3, c3), _, _, _, _, _), ⟨⟨hA1, hz1⟩, ⟨hA2, hz2⟩, ⟨hA3, hz3⟩⟩, ⟨rfl, rfl, rfl, trivial⟩, rfl, rfl⟩
    ·
      refine AXi.mkJ (i := 15) rfl (OpJ.atP 5 rfl (op_alloc rfl ze42 rfl) rfl) trivial ?_; (try simp only [nA, Nat.reduceBEq, Nat.reduceEqDiff, ↓reduceIte, Nat.reduceAdd, Nat.reduceSub])
      refine ax1 3 (by kernel_rfl) ?_; refine AXi.mk (i := 3) rfl (op_app_e 2 rfl rfl rfl rfl .ro Try.underlying23 ze3 (by decide) (iv_len _) (by simp; omega) (by decide) (n := m.pairs.length) (by simp)) ?_; rintro _ _ ⟨A1, c1, hA1, hz1, rfl, rfl⟩; refine ⟨trivial, ?_⟩; (try simp only [nA, Nat.reduceBEq, Nat.reduceEqDiff, ↓reduceIte, Nat.reduceAdd, Nat.reduceSub])
      refine ax1 7 (by kernel_rfl) ?_; refine AXi.mk (i := 7) rfl (op_app_e 3 rfl rfl rfl rfl .ro Try.underlying23 ze3 (by decide) (iv_len _) (by simp; omega) (by decide) (n := m.rows.length) (by simp)) ?_; rintro _ _ ⟨A2, c2, hA2, hz2, rfl, rfl⟩; refine ⟨trivial, ?_⟩; (try simp only [nA, Nat.reduceBEq, Nat.reduceEqDiff, ↓reduceIte, Nat.reduceAdd, Nat.reduceSub])
      refine ax1 11 (by kernel_rfl) ?_; refine AXi.mk (i := 11) rfl (op_app_e 4 rfl rfl rfl rfl .ro Try.underlying23 ze3 (by decide) (iv_len _) (by simp; omega) (by decide) (n := m.cols.length) (by simp)) ?_; rintro _ _ ⟨A3, c3, hA3, hz3, rfl, rfl⟩; refine ⟨trivial, ?_⟩; (try simp only [nA, Nat.reduceBEq, Nat.reduceEqDiff, ↓reduceIte, Nat.reduceAdd, Nat.reduceSub]); refine axP 14 rfl (fun T' ok => op_build2 (xs := [_, _, _, _]) rfl pl42 ze42 [(0, [_]), (1, [_]), (2, [_]), (3, [_])] rfl rfl rfl) trivial (by kernel_rfl) (by kernel_rfl) ?_; (try simp only [nA, Nat.reduceBEq, Nat.reduceEqDiff, ↓reduceIte, Nat.reduceAdd, Nat.reduceSub])
      refine ax1 16 (by kernel_rfl) ?_; refine AXi.mkJ (i := 16) rfl (op_store rfl rfl rfl rfl rfl rfl sz42 rfl (Nat.le_of_ble_eq_true rfl) rfl) trivial ?_; (try simp only [nA, Nat.reduceBEq, Nat.reduceEqDiff, ↓reduceIte, Nat.reduceAdd, Nat.reduceSub]); refine axDone (by kernel_rfl) ?_; exact ⟨((A1, c1), (A2, c2), (A3, c3), _, _, _, _, _), ⟨⟨hA1, hz1⟩, ⟨hA2, hz2⟩, ⟨hA3, hz3⟩⟩, ⟨rfl, rfl, rfl, trivial⟩, rfl, rfl⟩
  rintro ⟨⟨A1, c1⟩, ⟨A2, c2⟩, ⟨A3, c3⟩, q1, q2, q3, q4, e⟩ ρ0 ⟨⟨hA1, hz1⟩, ⟨hA2, hz2⟩, ⟨hA3, hz3⟩⟩; simp only [updL]; (try simp only [nA, Nat.reduceBEq, Nat.reduceEqDiff, ↓reduceIte, Nat.reduceAdd, Nat.reduceSub]); dsimp only at hA1 hz1 hA2 hz2 hA3 hz3 ⊢
  refine AW.join (ι := (Mat × Nat) × (Option Addr × Nat) × (Option Addr × Nat) × (Option Addr × Nat) × Nat × Nat × Nat × Nat) (fun z => [(4, .ptr 1 1 0 0), (5, .ptr 5 q4 0 0)]) (fun z => ⟨[(0, .own 58 [srcRow l z.1.2]), (1, .own 42 [[.v (.slice none 0 0), .v (.slice none 0 0), .v (.slice none 0 0), .v (.int .i64 0)]]), (z.2.2.2.2.1, nmE (.slice z.2.1.1 z.1.1.pairs.length z.2.1.2) 3 (z.1.1.pairs.map iv)), (z.2.2.2.2.2.1, nmE (.slice z.2.2.1.1 z.1.1.rows.length z.2.2.1.2) 3 (z.1.1.rows.map iv)), (z.2.2.2.2.2.2.1, nmE (.slice z.2.2.2.1.1 z.1.1.cols.length z.2.2.2.1.2) 3 (z.1.1.cols.map iv)), (q4, .own 42 [[.v (.slice z.2.1.1 z.1.1.pairs.length z.2.1.2), .v (.slice z.2.2.1.1 z.1.1.rows.length z.2.2.1.2), .v (.slice z.2.2.2.1.1 z.1.1.cols.length z.2.2.2.1.2), .v (.int .i64 z.1.1.total)]])], z.2.2.2.2.2.2.2⟩) (fun z => z.1 = bentF l k m ∧ okS z.1.1.pairs.length z.2.1 ∧ okS z.1.1.rows.length z.2.2.1 ∧ okS z.1.1.cols.length z.2.2.2.1) ?_ ?_
  ·
   (refine AW.seq_k ?_; intro K hK)
   refine AW.region ?_
   refine awP (op_move rfl rfl) ?_
   refine awJ (op_call1 rfl en29 (C29 hl (n := 6) (by decide)) (by exact rfl) (RL.cons .ptr (RL.cons (.base (by first | exact View.same rfl | exact View.nil | exact View.rof | exact View.src .ro | exact View.src .rof | exact View.src (.sl rfl rfl) | exact View.ptr rfl rfl rfl)) (RL.nil))) (by exact ⟨_, _, _, rfl, rfl, rfl⟩) (by exact rfl) (by exact rfl) (by exact rfl)) ?_; (try simp only [nA, Nat.reduceBEq, Nat.reduceEqDiff, ↓reduceIte, Nat.reduceAdd, Nat.reduceSub])
   refine AWL.nil ?_
   (refine hK _ ?_; clear hK K; (try simp only [nA, Nat.reduceBEq, Nat.reduceEqDiff, ↓reduceIte, Nat.reduceAdd, Nat.reduceSub]))
   refine AW.block ?_
   (refine AW.seq_k ?_; intro K hK)
   refine AW.region ?_
   (first | refine awP (op_eql rfl rfl rfl) ?_ | refine awP (op_seql rfl rfl rfl) ?_)
   refine awP (op_assign rfl rfl) ?_
   refine AWL.nil ?_
   (refine hK _ ?_; clear hK K; (try simp only [nA, Nat.reduceBEq, Nat.reduceEqDiff, ↓reduceIte, Nat.reduceAdd, Nat.reduceSub]))
   refine AW.cond rfl rfl rfl (fun hc => ?_) (fun hc => ?_)
   ·
    (try simp only [hcS] at hc); have hc1 := hc; have g3 := gmod_bd (x := rawV l (rawN l k)) (n := 3) (by decide)
    refine AW.adk 7 (FixL [(5, q4, .own 42 [[.v (.slice A1 m.pairs.length c1), .v (.slice A2 m.rows.length c2), .v (.slice A3 m.cols.length c3), .v (.int .i64 m.total)]])]) mix rfl ?_
    (first | refine akP 0 rfl (fun T' ok => op_fa_ptr rfl rfl (by first | exact ok.1 | exact ok.2.1 | exact ok.2.2.1 | exact ok.2.2.2.1) fl42_3 (by exact sz3) (by decide) rfl) (by first | exact trivial | exact ⟨rfl, trivial⟩ | exact ⟨rfl, rfl, trivial⟩ | exact ⟨rfl, rfl, rfl, trivial⟩) (by kernel_rfl) (by kernel_rfl) (by kernel_rfl) ?_ | refine akP 0 rfl (fun T' ok => op_fa_rop rfl rfl fl42_3 (by exact sz3) (by decide) (Nat.le_of_ble_eq_true rfl) rfl) (by first | exact trivial | exact ⟨rfl, trivial⟩ | exact ⟨rfl, rfl, trivial⟩ | exact ⟨rfl, rfl, rfl, trivial⟩) (by kernel_rfl) (by kernel_rfl) (by kernel_rfl) ?_); (try simp only [nA, Nat.reduceBEq, Nat.reduceEqDiff, ↓reduceIte, Nat.reduceAdd, Nat.reduceSub])
    (first | refine akR 1 rfl (fun T' ok => op_load_ptr1 rfl rfl (by first | exact ok.1 | exact ok.2.1 | exact ok.2.2.1 | exact ok.2.2.2.1) rfl ag3 rfl rfl) (by first | exact trivial | exact ⟨rfl, trivial⟩ | exact ⟨rfl, rfl, trivial⟩ | exact ⟨rfl, rfl, rfl, trivial⟩) (by kernel_rfl) (by kernel_rfl) (by kernel_rfl) ?_ | refine akR 1 rfl (fun T' ok => op_load_rop1 rfl rfl ag3) (by first | exact trivial | exact ⟨rfl, trivial⟩ | exact ⟨rfl, rfl, trivial⟩ | exact ⟨rfl, rfl, rfl, trivial⟩) (by kernel_rfl) (by kernel_rfl) (by kernel_rfl) ?_); (try simp only [nA, Nat.reduceBEq, Nat.reduceEqDiff, ↓reduceIte, Nat.reduceAdd, Nat.reduceSub])
    refine akP 2 rfl (fun T' ok => op_move rfl rfl) (by first | exact trivial | exact ⟨rfl, trivial⟩ | exact ⟨rfl, rfl, trivial⟩ | exact ⟨rfl, rfl, rfl, trivial⟩) (by kernel_rfl) (by kernel_rfl) (by kernel_rfl) ?_; (try simp only [nA, Nat.reduceBEq, Nat.reduceEqDiff, ↓reduceIte, Nat.reduceAdd, Nat.reduceSub])
    refine akJ 3 rfl (op_call1 rfl en29 (C29 hl (n := 3) (by decide)) (by exact rfl) (RL.cons .ptr (RL.cons (.base (by first | exact View.same rfl | exact View.nil | exact View.rof | exact View.src .ro | exact View.src .rof | exact View.src (.sl rfl rfl) | exact View.ptr rfl rfl rfl)) (RL.nil))) (by exact ⟨_, _, _, rfl, rfl, rfl⟩) (by exact rfl) (by exact rfl) (by exact rfl)) (by kernel_rfl) (by first | exact trivial | exact ⟨rfl, trivial⟩ | exact ⟨rfl, rfl, trivial⟩ | exact ⟨rfl, rfl, rfl, trivial⟩) ?_; (try simp only [nA, Nat.reduceBEq, Nat.reduceEqDiff, ↓reduceIte, Nat.reduceAdd, Nat.reduceSub])
    (first | refine akP 4 rfl (fun T' ok => op_subi rfl rfl rfl (by omega)) (by first | exact trivial | exact ⟨rfl, trivial⟩ | exact ⟨rfl, rfl, trivial⟩ | exact ⟨rfl, rfl, rfl, trivial⟩) (by kernel_rfl) (by kernel_rfl) (by kernel_rfl) ?_ | refine akP 4 rfl (fun T' ok => op_sub rfl rfl rfl rfl) (by first | exact trivial | exact ⟨rfl, trivial⟩ | exact ⟨rfl, rfl, trivial⟩ | exact ⟨rfl, rfl, rfl, trivial⟩) (by kernel_rfl) (by kernel_rfl) (by kernel_rfl) ?_); (try simp only [nA, Nat.reduceBEq, Nat.reduceEqDiff, ↓reduceIte, Nat.reduceAdd, Nat.reduceSub])
    (first | refine akP 5 rfl (fun T' ok => op_addi rfl rfl rfl (by omega)) (by first | exact trivial | exact ⟨rfl, trivial⟩ | exact ⟨rfl, rfl, trivial⟩ | exact ⟨rfl, rfl, rfl, trivial⟩) (by kernel_rfl) (by kernel_rfl) (by kernel_rfl) ?_ | refine akP 5 rfl (fun T' ok => op_add rfl rfl rfl rfl) (by first | exact trivial | exact ⟨rfl, trivial⟩ | exact ⟨rfl, rfl, trivial⟩ | exact ⟨rfl, rfl, rfl, trivial⟩) (by kernel_rfl) (by kernel_rfl) (by kernel_rfl) ?_); (try simp only [nA, Nat.reduceBEq, Nat.reduceEqDiff, ↓reduceIte, Nat.reduceAdd, Nat.reduceSub])
    (first | refine akP 6 rfl (fun T' ok => op_fa_ptr rfl rfl (by first | exact ok.1 | exact ok.2.1 | exact ok.2.2.1 | exact ok.2.2.2.1) fl42_3 (by exact sz3) (by decide) rfl) (by first | exact trivial | exact ⟨rfl, trivial⟩ | exact ⟨rfl, rfl, trivial⟩ | exact ⟨rfl, rfl, rfl, trivial⟩) (by kernel_rfl) (by kernel_rfl) (by kernel_rfl) ?_ | refine akP 6 rfl (fun T' ok => op_fa_rop rfl rfl fl42_3 (by exact sz3) (by decide) (Nat.le_of_ble_eq_true rfl) rfl) (by first | exact trivial | exact ⟨rfl, trivial⟩ | exact ⟨rfl, rfl, trivial⟩ | exact ⟨rfl, rfl, rfl, trivial⟩) (by kernel_rfl) (by kernel_rfl) (by kernel_rfl) ?_); (try simp only [nA, Nat.reduceBEq, Nat.reduceEqDiff, ↓reduceIte, Nat.reduceAdd, Nat.reduceSub])
    refine akL 7 rfl (op_store rfl rfl rfl rfl rfl rfl sz3 rfl (Nat.le_of_ble_eq_true rfl) rfl) (by kernel_rfl) (by decide) ?_; (try simp only [nA, Nat.reduceBEq, Nat.reduceEqDiff, ↓reduceIte, Nat.reduceAdd, Nat.reduceSub])
    refine akDone (by kernel_rfl) ?_
    (try simp only [thenE, inBlk, Nat.reduceEqDiff, ↓reduceIte])
    refine ⟨(({ m with total := w64 (m.total + (gmod (rawV l (rawN l k)) 3 - 1)) }, it2 l k), (A1, c1), (A2, c2), (A3, c3), q1, q2, q3, e), ⟨(by unfold bentF; rw [if_pos hc1]), ⟨hA1, hz1⟩, ⟨hA2, hz2⟩, ⟨hA3, hz3⟩⟩, ⟨rfl, rfl, trivial⟩, (by first | rfl | trivial), (by first | rfl | trivial)⟩
   ·
    (try simp only [hcS] at hc); have hc1 := hc; skip
    (refine AW.seq_k ?_; intro K hK)
    refine AW.region ?_
    (first | refine awP (op_eql rfl rfl rfl) ?_ | refine awP (op_seql rfl rfl rfl) ?_)
    refine awP (op_assign rfl rfl) ?_
    refine AWL.nil ?_
    (refine hK _ ?_; clear hK K; (try simp only [nA, Nat.reduceBEq, Nat.reduceEqDiff, ↓reduceIte, Nat.reduceAdd, Nat.reduceSub]))
    refine AW.cond rfl rfl rfl (fun hc => ?_) (fun hc => ?_)
    ·
     (try simp only [hcS] at hc); have hc2 := hc; skip
     (refine AW.seq_k ?_; intro K hK)
     refine AW.region ?_
     (first | refine awP (op_fa_ptr rfl rfl rfl fl42_0 (by exact sz23) (by decide) rfl) ?_ | refine awP (op_fa_rop rfl rfl fl42_0 (by exact sz23) (by decide) (Nat.le_of_ble_eq_true rfl) rfl) ?_)
     (first | refine awR (op_load_ptr1 rfl rfl rfl rfl ag23 rfl rfl) ?_ | refine awR (op_load_rop1 rfl rfl ag23) ?_)
     refine awP (op_len_v rfl rfl Try.underlying23) ?_
     refine awP (op_gtr rfl rfl rfl) ?_
     refine AWL.nil ?_
     (refine hK _ ?_; clear hK K; (try simp only [nA, Nat.reduceBEq, Nat.reduceEqDiff, ↓reduceIte, Nat.reduceAdd, Nat.reduceSub]))
     refine AW.cond rfl rfl rfl (fun hc => ?_) (fun hc => ?_)
     ·
      (try simp only [hcS] at hc); have hc3 := hc; obtain ⟨g, rfl⟩ := hA1 (by omega); rw [nmE_pos (es := m.pairs.map iv) (by simp; omega)]; have gm := gmod_bd (x := rawV l (rawN l k)) (n := (m.pairs.length : Nat)) (by omega); have hi1 : gmod (rawV l (rawN l k)) (m.pairs.length : Nat) = (((ixV l k m.pairs.length) : Nat) : Int) := (by show _ = (((gmod _ _).toNat : Nat) : Int); omega); have hl1 : (ixV l k m.pairs.length) < m.pairs.length := (by show (gmod _ _).toNat < _; omega); have g6 := gmod_bd (x := rawV l (rawN l (rawN l k))) (n := 6) (by decide)
      refine AW.ad [(5, q4, .own 42 [[.v (.slice (some ⟨g, 0, none⟩) m.pairs.length c1), .v (.slice A2 m.rows.length c2), .v (.slice A3 m.cols.length c3), .v (.int .i64 m.total)]])] mix rfl ?_
      (first | refine adP 0 rfl (fun T' ok => op_fa_ptr rfl rfl (by first | exact ok.1 | exact ok.2.1 | exact ok.2.2.1 | exact ok.2.2.2.1) fl42_0 (by exact sz23) (by decide) rfl) (by first | exact trivial | exact ⟨rfl, trivial⟩ | exact ⟨rfl, rfl, trivial⟩ | exact ⟨rfl, rfl, rfl, trivial⟩) (by kernel_rfl) (by kernel_rfl) ?_ | refine adP 0 rfl (fun T' ok => op_fa_rop rfl rfl fl42_0 (by exact sz23) (by decide) (Nat.le_of_ble_eq_true rfl) rfl) (by first | exact trivial | exact ⟨rfl, trivial⟩ | exact ⟨rfl, rfl, trivial⟩ | exact ⟨rfl, rfl, rfl, trivial⟩) (by kernel_rfl) (by kernel_rfl) ?_)
      (first | refine adR 1 rfl (fun T' ok => op_load_ptr1 rfl rfl (by first | exact ok.1 | exact ok.2.1 | exact ok.2.2.1 | exact ok.2.2.2.1) rfl ag23 rfl rfl) (by first | exact trivial | exact ⟨rfl, trivial⟩ | exact ⟨rfl, rfl, trivial⟩ | exact ⟨rfl, rfl, rfl, trivial⟩) (by kernel_rfl) (by kernel_rfl) ?_ | refine adR 1 rfl (fun T' ok => op_load_rop1 rfl rfl ag23) (by first | exact trivial | exact ⟨rfl, trivial⟩ | exact ⟨rfl, rfl, trivial⟩ | exact ⟨rfl, rfl, rfl, trivial⟩) (by kernel_rfl) (by kernel_rfl) ?_)
      refine adP 2 rfl (fun T' ok => op_move rfl rfl) (by first | exact trivial | exact ⟨rfl, trivial⟩ | exact ⟨rfl, rfl, trivial⟩ | exact ⟨rfl, rfl, rfl, trivial⟩) (by kernel_rfl) (by kernel_rfl) ?_
      (first | refine adP 3 rfl (fun T' ok => op_fa_ptr rfl rfl (by first | exact ok.1 | exact ok.2.1 | exact ok.2.2.1 | exact ok.2.2.2.1) fl42_0 (by exact sz23) (by decide) rfl) (by first | exact trivial | exact ⟨rfl, trivial⟩ | exact ⟨rfl, rfl, trivial⟩ | exact ⟨rfl, rfl, rfl, trivial⟩) (by kernel_rfl) (by kernel_rfl) ?_ | refine adP 3 rfl (fun T' ok => op_fa_rop rfl rfl fl42_0 (by exact sz23) (by decide) (Nat.le_of_ble_eq_true rfl) rfl) (by first | exact trivial | exact ⟨rfl, trivial⟩ | exact ⟨rfl, rfl, trivial⟩ | exact ⟨rfl, rfl, rfl, trivial⟩) (by kernel_rfl) (by kernel_rfl) ?_)
      (first | refine adR 4 rfl (fun T' ok => op_load_ptr1 rfl rfl (by first | exact ok.1 | exact ok.2.1 | exact ok.2.2.1 | exact ok.2.2.2.1) rfl ag23 rfl rfl) (by first | exact trivial | exact ⟨rfl, trivial⟩ | exact ⟨rfl, rfl, trivial⟩ | exact ⟨rfl, rfl, rfl, trivial⟩) (by kernel_rfl) (by kernel_rfl) ?_ | refine adR 4 rfl (fun T' ok => op_load_rop1 rfl rfl ag23) (by first | exact trivial | exact ⟨rfl, trivial⟩ | exact ⟨rfl, rfl, trivial⟩ | exact ⟨rfl, rfl, rfl, trivial⟩) (by kernel_rfl) (by kernel_rfl) ?_)
      refine adP 5 rfl (fun T' ok => op_len_v rfl rfl Try.underlying23) (by first | exact trivial | exact ⟨rfl, trivial⟩ | exact ⟨rfl, rfl, trivial⟩ | exact ⟨rfl, rfl, rfl, trivial⟩) (by kernel_rfl) (by kernel_rfl) ?_; (try simp only [nA, Nat.reduceBEq, Nat.reduceEqDiff, ↓reduceIte, Nat.reduceAdd, Nat.reduceSub])
      refine adP 7 rfl (fun T' ok => op_move rfl rfl) (by first | exact trivial | exact ⟨rfl, trivial⟩ | exact ⟨rfl, rfl, trivial⟩ | exact ⟨rfl, rfl, rfl, trivial⟩) (by kernel_rfl) (by kernel_rfl) ?_
      refine adJ 6 rfl (op_call1 rfl en29 (C29 hl (n := (m.pairs.length : Nat)) (by omega)) (by exact rfl) (RL.cons .ptr (RL.cons (.base (by first | exact View.same rfl | exact View.nil | exact View.rof | exact View.src .ro | exact View.src .rof | exact View.src (.sl rfl rfl) | exact View.ptr rfl rfl rfl)) (RL.nil))) (by exact ⟨_, _, _, rfl, rfl, rfl⟩) (by exact rfl) (by exact rfl) (by exact rfl)) (by kernel_rfl) (by first | exact trivial | exact ⟨rfl, trivial⟩ | exact ⟨rfl, rfl, trivial⟩ | exact ⟨rfl, rfl, rfl, trivial⟩) ?_; (try simp only [nA, Nat.reduceBEq, Nat.reduceEqDiff, ↓reduceIte, Nat.reduceAdd, Nat.reduceSub])
      refine adJ 8 rfl (op_call1 rfl en29 (C29 hl (n := 6) (by decide)) (by exact rfl) (RL.cons .ptr (RL.cons (.base (by first | exact View.same rfl | exact View.nil | exact View.rof | exact View.src .ro | exact View.src .rof | exact View.src (.sl rfl rfl) | exact View.ptr rfl rfl rfl)) (RL.nil))) (by exact ⟨_, _, _, rfl, rfl, rfl⟩) (by exact rfl) (by exact rfl) (by exact rfl)) (by kernel_rfl) (by first | exact trivial | exact ⟨rfl, trivial⟩ | exact ⟨rfl, rfl, trivial⟩ | exact ⟨rfl, rfl, rfl, trivial⟩) ?_; (try simp only [nA, Nat.reduceBEq, Nat.reduceEqDiff, ↓reduceIte, Nat.reduceAdd, Nat.reduceSub])
      (first | refine adP 9 rfl (fun T' ok => op_subi rfl rfl rfl (by omega)) (by first | exact trivial | exact ⟨rfl, trivial⟩ | exact ⟨rfl, rfl, trivial⟩ | exact ⟨rfl, rfl, rfl, trivial⟩) (by kernel_rfl) (by kernel_rfl) ?_ | refine adP 9 rfl (fun T' ok => op_sub rfl rfl rfl rfl) (by first | exact trivial | exact ⟨rfl, trivial⟩ | exact ⟨rfl, rfl, trivial⟩ | exact ⟨rfl, rfl, rfl, trivial⟩) (by kernel_rfl) (by kernel_rfl) ?_)
      refine adP 10 rfl (fun T' ok => op_ia_v (ixV l k m.pairs.length) 1 rfl rfl rfl Try.underlying23 hi1 hl1 sz3 rfl) (by first | exact trivial | exact ⟨rfl, trivial⟩ | exact ⟨rfl, rfl, trivial⟩ | exact ⟨rfl, rfl, rfl, trivial⟩) (by kernel_rfl) (by kernel_rfl) ?_; (try simp only [nA, Nat.reduceBEq, Nat.reduceEqDiff, ↓reduceIte, Nat.reduceAdd, Nat.reduceSub])
      refine adJ 11 rfl (op_store_v 2 q1 (ixV l k m.pairs.length) 0 rfl rfl rfl rfl (gI_mapD hl1) rfl sz3 rfl sz3 rfl (Nat.le_of_ble_eq_true rfl) (es' := (m.pairs.set (ixV l k m.pairs.length) (gmod (rawV l (it2 l k)) 6 - 2)).map iv) (by rw [List.map_set]; rfl) rfl) (by kernel_rfl) (by first | exact trivial | exact ⟨rfl, trivial⟩ | exact ⟨rfl, rfl, trivial⟩ | exact ⟨rfl, rfl, rfl, trivial⟩) ?_; (try simp only [nA, Nat.reduceBEq, Nat.reduceEqDiff, ↓reduceIte, Nat.reduceAdd, Nat.reduceSub])
      refine adDone (by kernel_rfl) ?_
      (try simp only [thenE, inBlk, Nat.reduceEqDiff, ↓reduceIte])
      refine ⟨(({ m with pairs := m.pairs.set (ixV l k m.pairs.length) (gmod (rawV l (it2 l k)) 6 - 2) }, rawN l (it2 l k)), (some ⟨g, 0, none⟩, c1), (A2, c2), (A3, c3), q1, q2, q3, e), ⟨(by unfold bentF; rw [if_neg hc1, if_pos hc2, if_pos (by omega)]), (by dsimp only; rw [List.length_set]; exact ⟨hA1, hz1⟩), ⟨hA2, hz2⟩, ⟨hA3, hz3⟩⟩, ⟨rfl, rfl, trivial⟩, (by dsimp only; rw [List.length_set, nmE_pos (es := (m.pairs.set _ _).map iv) (by simp; omega)]), (by first | rfl | trivial)⟩
     ·
      (try simp only [hcS] at hc); have hc3 := hc; skip
      refine AW.skip ?_
      (try simp only [thenE, inBlk, Nat.reduceEqDiff, ↓reduceIte])
      refine ⟨((m, rawN l k), (A1, c1), (A2, c2), (A3, c3), q1, q2, q3, e), ⟨(by unfold bentF; rw [if_neg hc1, if_pos hc2, if_neg (by omega)]), ⟨hA1, hz1⟩, ⟨hA2, hz2⟩, ⟨hA3, hz3⟩⟩, ⟨rfl, rfl, trivial⟩, (by first | rfl | trivial), (by first | rfl | trivial)⟩
    ·
     (try simp only [hcS] at hc); have hc2 := hc; skip
     (refine AW.seq_k ?_; intro K hK)
     refine AW.region ?_
     (first | refine awP (op_eql rfl rfl rfl) ?_ | refine awP (op_seql rfl rfl rfl) ?_)
     refine awP (op_assign rfl rfl) ?_
     refine AWL.nil ?_
     (refine hK _ ?_; clear hK K; (try simp only [nA, Nat.reduceBEq, Nat.reduceEqDiff, ↓reduceIte, Nat.reduceAdd, Nat.reduceSub]))
     refine AW.cond rfl rfl rfl (fun hc => ?_) (fun hc => ?_)
     ·
      (try simp only [hcS] at hc); have hc4 := hc; skip
      (refine AW.seq_k ?_; intro K hK)
      refine AW.region ?_
      (first | refine awP (op_fa_ptr rfl rfl rfl fl42_1 (by exact sz23) (by decide) rfl) ?_ | refine awP (op_fa_rop rfl rfl fl42_1 (by exact sz23) (by decide) (Nat.le_of_ble_eq_true rfl) rfl) ?_)
      (first | refine awR (op_load_ptr1 rfl rfl rfl rfl ag23 rfl rfl) ?_ | refine awR (op_load_rop1 rfl rfl ag23) ?_)
      refine awP (op_len_v rfl rfl Try.underlying23) ?_
      refine awP (op_gtr rfl rfl rfl) ?_
      refine AWL.nil ?_
      (refine hK _ ?_; clear hK K; (try simp only [nA, Nat.reduceBEq, Nat.reduceEqDiff, ↓reduceIte, Nat.reduceAdd, Nat.reduceSub]))
      refine AW.cond rfl rfl rfl (fun hc => ?_) (fun hc => ?_)
      ·
       (try simp only [hcS] at hc); have hc5 := hc; obtain ⟨g, rfl⟩ := hA2 (by omega); rw [nmE_pos (es := m.rows.map iv) (by simp; omega)]; have gm := gmod_bd (x := rawV l (rawN l k)) (n := (m.rows.length : Nat)) (by omega); have hi1 : gmod (rawV l (rawN l k)) (m.rows.length : Nat) = (((ixV l k m.rows.length) : Nat) : Int) := (by show _ = (((gmod _ _).toNat : Nat) : Int); omega); have hl1 : (ixV l k m.rows.length) < m.rows.length := (by show (gmod _ _).toNat < _; omega)
       refine AW.adk 14 (FixL [(5, q4, .own 42 [[.v (.slice A1 m.pairs.length c1), .v (.slice (some ⟨g, 0, none⟩) m.rows.length c2), .v (.slice A3 m.cols.length c3), .v (.int .i64 m.total)]]), (3, q2, .nm (slv g m.rows.length c2) 3 (m.rows.map iv))]) mix rfl ?_
       (first | refine akP 0 rfl (fun T' ok => op_fa_ptr rfl rfl (by first | exact ok.1 | exact ok.2.1 | exact ok.2.2.1 | exact ok.2.2.2.1) fl42_1 (by exact sz23) (by decide) rfl) (by first | exact trivial | exact ⟨rfl, trivial⟩ | exact ⟨rfl, rfl, trivial⟩ | exact ⟨rfl, rfl, rfl, trivial⟩) (by kernel_rfl) (by kernel_rfl) (by kernel_rfl) ?_ | refine akP 0 rfl (fun T' ok => op_fa_rop rfl rfl fl42_1 (by exact sz23) (by decide) (Nat.le_of_ble_eq_true rfl) rfl) (by first | exact trivial | exact ⟨rfl, trivial⟩ | exact ⟨rfl, rfl, trivial⟩ | exact ⟨rfl, rfl, rfl, trivial⟩) (by kernel_rfl) (by kernel_rfl) (by kernel_rfl) ?_); (try simp only [nA, Nat.reduceBEq, Nat.reduceEqDiff, ↓reduceIte, Nat.reduceAdd, Nat.reduceSub])
       (first | refine akR 1 rfl (fun T' ok => op_load_ptr1 rfl rfl (by first | exact ok.1 | exact ok.2.1 | exact ok.2.2.1 | exact ok.2.2.2.1) rfl ag23 rfl rfl) (by first | exact trivial | exact ⟨rfl, trivial⟩ | exact ⟨rfl, rfl, trivial⟩ | exact ⟨rfl, rfl, rfl, trivial⟩) (by kernel_rfl) (by kernel_rfl) (by kernel_rfl) ?_ | refine akR 1 rfl (fun T' ok => op_load_rop1 rfl rfl ag23) (by first | exact trivial | exact ⟨rfl, trivial⟩ | exact ⟨rfl, rfl, trivial⟩ | exact ⟨rfl, rfl, rfl, trivial⟩) (by kernel_rfl) (by kernel_rfl) (by kernel_rfl) ?_); (try simp only [nA, Nat.reduceBEq, Nat.reduceEqDiff, ↓reduceIte, Nat.reduceAdd, Nat.reduceSub])
       refine akP 2 rfl (fun T' ok => op_move rfl rfl) (by first | exact trivial | exact ⟨rfl, trivial⟩ | exact ⟨rfl, rfl, trivial⟩ | exact ⟨rfl, rfl, rfl, trivial⟩) (by kernel_rfl) (by kernel_rfl) (by kernel_rfl) ?_; (try simp only [nA, Nat.reduceBEq, Nat.reduceEqDiff, ↓reduceIte, Nat.reduceAdd, Nat.reduceSub])
       (first | refine akP 3 rfl (fun T' ok => op_fa_ptr rfl rfl (by first | exact ok.1 | exact ok.2.1 | exact ok.2.2.1 | exact ok.2.2.2.1) fl42_1 (by exact sz23) (by decide) rfl) (by first | exact trivial | exact ⟨rfl, trivial⟩ | exact ⟨rfl, rfl, trivial⟩ | exact ⟨rfl, rfl, rfl, trivial⟩) (by kernel_rfl) (by kernel_rfl) (by kernel_rfl) ?_ | refine akP 3 rfl (fun T' ok => op_fa_rop rfl rfl fl42_1 (by exact sz23) (by decide) (Nat.le_of_ble_eq_true rfl) rfl) (by first | exact trivial | exact ⟨rfl, trivial⟩ | exact ⟨rfl, rfl, trivial⟩ | exact ⟨rfl, rfl, rfl, trivial⟩) (by kernel_rfl) (by kernel_rfl) (by kernel_rfl) ?_); (try simp only [nA, Nat.reduceBEq, Nat.reduceEqDiff, ↓reduceIte, Nat.reduceAdd, Nat.reduceSub])
       (first | refine akR 4 rfl (fun T' ok => op_load_ptr1 rfl rfl (by first | exact ok.1 | exact ok.2.1 | exact ok.2.2.1 | exact ok.2.2.2.1) rfl ag23 rfl rfl) (by first | exact trivial | exact ⟨rfl, trivial⟩ | exact ⟨rfl, rfl, trivial⟩ | exact ⟨rfl, rfl, rfl, trivial⟩) (by kernel_rfl) (by kernel_rfl) (by kernel_rfl) ?_ | refine akR 4 rfl (fun T' ok => op_load_rop1 rfl rfl ag23) (by first | exact trivial | exact ⟨rfl, trivial⟩ | exact ⟨rfl, rfl, trivial⟩ | exact ⟨rfl, rfl, rfl, trivial⟩) (by kernel_rfl) (by kernel_rfl) (by kernel_rfl) ?_); (try simp only [nA, Nat.reduceBEq, Nat.reduceEqDiff, ↓reduceIte, Nat.reduceAdd, Nat.reduceSub])
       refine akP 5 rfl (fun T' ok => op_len_v rfl rfl Try.underlying23) (by first | exact trivial | exact ⟨rfl, trivial⟩ | exact ⟨rfl, rfl, trivial⟩ | exact ⟨rfl, rfl, rfl, trivial⟩) (by kernel_rfl) (by kernel_rfl) (by kernel_rfl) ?_; (try simp only [nA, Nat.reduceBEq, Nat.reduceEqDiff, ↓reduceIte, Nat.reduceAdd, Nat.reduceSub])
       refine akP 9 rfl (fun T' ok => op_move rfl rfl) (by first | exact trivial | exact ⟨rfl, trivial⟩ | exact ⟨rfl, rfl, trivial⟩ | exact ⟨rfl, rfl, rfl, trivial⟩) (by kernel_rfl) (by kernel_rfl) (by kernel_rfl) ?_; (try simp only [nA, Nat.reduceBEq, Nat.reduceEqDiff, ↓reduceIte, Nat.reduceAdd, Nat.reduceSub]); refine akF 10 rfl (fun T' ok => OpJ.frz (op_buildSlice rfl [(0, iv (-1)), (1, iv 1), (2, iv 10), (3, iv 1073741824)] (bR4.map iv) Try.underlying23 ze3 rfl (by simp [bR4]) (fold_dense 1 (bR4.map iv) (iv_len _)) (iv_len _) rfl (Nat.le_of_ble_eq_true rfl) (by simp [bR4, maxLen])) (iv_flat bR4) rfl) (by first | exact trivial | exact ⟨rfl, trivial⟩ | exact ⟨rfl, rfl, trivial⟩ | exact ⟨rfl, rfl, rfl, trivial⟩) (by kernel_rfl) (by kernel_rfl) (by kernel_rfl) ?_; (try simp only [nA, Nat.reduceBEq, Nat.reduceEqDiff, ↓reduceIte, Nat.reduceAdd, Nat.reduceSub])
       -- READY [6, 10]
       refine akJ 6 rfl (op_call1 rfl en29 (C29 hl (n := (m.rows.length : Nat)) (by omega)) (by exact rfl) (RL.cons .ptr (RL.cons (.base (by first | exact View.same rfl | exact View.nil | exact View.rof | exact View.src .ro | exact View.src .rof | exact View.src (.sl rfl rfl) | exact View.ptr rfl rfl rfl)) (RL.nil))) (by exact ⟨_, _, _, rfl, rfl, rfl⟩) (by exact rfl) (by exact rfl) (by exact rfl)) (by kernel_rfl) (by first | exact trivial | exact ⟨rfl, trivial⟩ | exact ⟨rfl, rfl, trivial⟩ | exact ⟨rfl, rfl, rfl, trivial⟩) ?_; (try simp only [nA, Nat.reduceBEq, Nat.reduceEqDiff, ↓reduceIte, Nat.reduceAdd, Nat.reduceSub])
       refine akP 7 rfl (fun T' ok => op_ia_v (ixV l k m.rows.length) 1 rfl rfl rfl Try.underlying23 hi1 hl1 sz3 rfl) (by first | exact trivial | exact ⟨rfl, trivial⟩ | exact ⟨rfl, rfl, trivial⟩ | exact ⟨rfl, rfl, rfl, trivial⟩) (by kernel_rfl) (by kernel_rfl) (by kernel_rfl) ?_; (try simp only [nA, Nat.reduceBEq, Nat.reduceEqDiff, ↓reduceIte, Nat.reduceAdd, Nat.reduceSub])
       refine akR 8 rfl (fun T' ok => op_load_v 3 q2 (ixV l k m.rows.length) 0 rfl rfl ok.2.1 (gI_mapD hl1) ag3 sz3 rfl rfl rfl) (by first | exact trivial | exact ⟨rfl, trivial⟩ | exact ⟨rfl, rfl, trivial⟩ | exact ⟨rfl, rfl, rfl, trivial⟩) (by kernel_rfl) (by kernel_rfl) (by kernel_rfl) ?_; (try simp only [nA, Nat.reduceBEq, Nat.reduceEqDiff, ↓reduceIte, Nat.reduceAdd, Nat.reduceSub])
       skip
       refine akJ 11 rfl (op_call1 rfl en30 (C30 (xs := bR4) hl (by decide) (by decide)) (by exact rfl) (RL.cons .ptr (RL.cons (.base (by first | exact View.same rfl | exact View.nil | exact View.rof | exact View.src .ro | exact View.src .rof | exact View.src (.sl rfl rfl) | exact View.ptr rfl rfl rfl)) (RL.nil))) (by exact ⟨_, _, _, rfl, rfl, rfl⟩) (by exact rfl) (by exact rfl) (by exact rfl)) (by kernel_rfl) (by first | exact trivial | exact ⟨rfl, trivial⟩ | exact ⟨rfl, rfl, trivial⟩ | exact ⟨rfl, rfl, rfl, trivial⟩) ?_; (try simp only [nA, Nat.reduceBEq, Nat.reduceEqDiff, ↓reduceIte, Nat.reduceAdd, Nat.reduceSub])
       (first | refine akP 12 rfl (fun T' ok => op_addi rfl rfl rfl (by omega)) (by first | exact trivial | exact ⟨rfl, trivial⟩ | exact ⟨rfl, rfl, trivial⟩ | exact ⟨rfl, rfl, rfl, trivial⟩) (by kernel_rfl) (by kernel_rfl) (by kernel_rfl) ?_ | refine akP 12 rfl (fun T' ok => op_add rfl rfl rfl rfl) (by first | exact trivial | exact ⟨rfl, trivial⟩ | exact ⟨rfl, rfl, trivial⟩ | exact ⟨rfl, rfl, rfl, trivial⟩) (by kernel_rfl) (by kernel_rfl) (by kernel_rfl) ?_); (try simp only [nA, Nat.reduceBEq, Nat.reduceEqDiff, ↓reduceIte, Nat.reduceAdd, Nat.reduceSub])
       refine akP 13 rfl (fun T' ok => op_ia_v (ixV l k m.rows.length) 1 rfl rfl rfl Try.underlying23 hi1 hl1 sz3 rfl) (by first | exact trivial | exact ⟨rfl, trivial⟩ | exact ⟨rfl, rfl, trivial⟩ | exact ⟨rfl, rfl, rfl, trivial⟩) (by kernel_rfl) (by kernel_rfl) (by kernel_rfl) ?_; (try simp only [nA, Nat.reduceBEq, Nat.reduceEqDiff, ↓reduceIte, Nat.reduceAdd, Nat.reduceSub])
       refine akL 14 rfl (op_store_v 3 q2 (ixV l k m.rows.length) 0 rfl rfl rfl rfl (gI_mapD hl1) rfl sz3 rfl sz3 rfl (Nat.le_of_ble_eq_true rfl) (es' := (m.rows.set (ixV l k m.rows.length) (w64 (gI m.rows (ixV l k m.rows.length) + pickV l (it2 l k) bR4))).map iv) (by rw [List.map_set]; rfl) rfl) (by kernel_rfl) (by decide) ?_; (try simp only [nA, Nat.reduceBEq, Nat.reduceEqDiff, ↓reduceIte, Nat.reduceAdd, Nat.reduceSub])
       refine akDone (by kernel_rfl) ?_
       (try simp only [thenE, inBlk, Nat.reduceEqDiff, ↓reduceIte])
       refine ⟨(({ m with rows := m.rows.set (ixV l k m.rows.length) (w64 (gI m.rows (ixV l k m.rows.length) + pickV l (it2 l k) bR4)) }, rawN l (it2 l k)), (A1, c1), (some ⟨g, 0, none⟩, c2), (A3, c3), q1, q2, q3, e), ⟨(by unfold bentF; rw [if_neg hc1, if_neg hc2, if_pos hc4, if_pos (by omega)]), ⟨hA1, hz1⟩, (by dsimp only; rw [List.length_set]; exact ⟨hA2, hz2⟩), ⟨hA3, hz3⟩⟩, ⟨rfl, rfl, trivial⟩, (by dsimp only; rw [List.length_set, nmE_pos (es := (m.rows.set _ _).map iv) (by simp; omega)]), (by first | rfl | trivial)⟩
      ·
       (try simp only [hcS] at hc); have hc5 := hc; skip
       refine AW.skip ?_
       (try simp only [thenE, inBlk, Nat.reduceEqDiff, ↓reduceIte])
       refine ⟨((m, rawN l k), (A1, c1), (A2, c2), (A3, c3), q1, q2, q3, e), ⟨(by unfold bentF; rw [if_neg hc1, if_neg hc2, if_pos hc4, if_neg (by omega)]), ⟨hA1, hz1⟩, ⟨hA2, hz2⟩, ⟨hA3, hz3⟩⟩, ⟨rfl, rfl, trivial⟩, (by first | rfl | trivial), (by first | rfl | trivial)⟩
     ·
      (try simp only [hcS] at hc); have hc4 := hc; skip
      (refine AW.seq_k ?_; intro K hK)
      refine AW.region ?_
      (first | refine awP (op_eql rfl rfl rfl) ?_ | refine awP (op_seql rfl rfl rfl) ?_)
      refine awP (op_assign rfl rfl) ?_
      refine AWL.nil ?_
      (refine hK _ ?_; clear hK K; (try simp only [nA, Nat.reduceBEq, Nat.reduceEqDiff, ↓reduceIte, Nat.reduceAdd, Nat.reduceSub]))
      refine AW.cond rfl rfl rfl (fun hc => ?_) (fun hc => ?_)
      ·
       (try simp only [hcS] at hc); have hc6 := hc; skip
       (refine AW.seq_k ?_; intro K hK)
       refine AW.region ?_
       (first | refine awP (op_fa_ptr rfl rfl rfl fl42_2 (by exact sz23) (by decide) rfl) ?_ | refine awP (op_fa_rop rfl rfl fl42_2 (by exact sz23) (by decide) (Nat.le_of_ble_eq_true rfl) rfl) ?_)
       (first | refine awR (op_load_ptr1 rfl rfl rfl rfl ag23 rfl rfl) ?_ | refine awR (op_load_rop1 rfl rfl ag23) ?_)
       refine awP (op_len_v rfl rfl Try.underlying23) ?_
       refine awP (op_gtr rfl rfl rfl) ?_
       refine AWL.nil ?_
       (refine hK _ ?_; clear hK K; (try simp only [nA, Nat.reduceBEq, Nat.reduceEqDiff, ↓reduceIte, Nat.reduceAdd, Nat.reduceSub]))
       refine AW.cond rfl rfl rfl (fun hc => ?_) (fun hc => ?_)
       ·
        (try simp only [hcS] at hc); have hc7 := hc; obtain ⟨g, rfl⟩ := hA3 (by omega); rw [nmE_pos (es := m.cols.map iv) (by simp; omega)]; have gm := gmod_bd (x := rawV l (rawN l k)) (n := (m.cols.length : Nat)) (by omega); have hi1 : gmod (rawV l (rawN l k)) (m.cols.length : Nat) = (((ixV l k m.cols.length) : Nat) : Int) := (by show _ = (((gmod _ _).toNat : Nat) : Int); omega); have hl1 : (ixV l k m.cols.length) < m.cols.length := (by show (gmod _ _).toNat < _; omega)
        refine AW.adk 14 (FixL [(5, q4, .own 42 [[.v (.slice A1 m.pairs.length c1), .v (.slice A2 m.rows.length c2), .v (.slice (some ⟨g, 0, none⟩) m.cols.length c3), .v (.int .i64 m.total)]]), (4, q3, .nm (slv g m.cols.length c3) 3 (m.cols.map iv))]) mix rfl ?_
        (first | refine akP 0 rfl (fun T' ok => op_fa_ptr rfl rfl (by first | exact ok.1 | exact ok.2.1 | exact ok.2.2.1 | exact ok.2.2.2.1) fl42_2 (by exact sz23) (by decide) rfl) (by first | exact trivial | exact ⟨rfl, trivial⟩ | exact ⟨rfl, rfl, trivial⟩ | exact ⟨rfl, rfl, rfl, trivial⟩) (by kernel_rfl) (by kernel_rfl) (by kernel_rfl) ?_ | refine akP 0 rfl (fun T' ok => op_fa_rop rfl rfl fl42_2 (by exact sz23) (by decide) (Nat.le_of_ble_eq_true rfl) rfl) (by first | exact trivial | exact ⟨rfl, trivial⟩ | exact ⟨rfl, rfl, trivial⟩ | exact ⟨rfl, rfl, rfl, trivial⟩) (by kernel_rfl) (by kernel_rfl) (by kernel_rfl) ?_); (try simp only [nA, Nat.reduceBEq, Nat.reduceEqDiff, ↓reduceIte, Nat.reduceAdd, Nat.reduceSub])
        (first | refine akR 1 rfl (fun T' ok => op_load_ptr1 rfl rfl (by first | exact ok.1 | exact ok.2.1 | exact ok.2.2.1 | exact ok.2.2.2.1) rfl ag23 rfl rfl) (by first | exact trivial | exact ⟨rfl, trivial⟩ | exact ⟨rfl, rfl, trivial⟩ | exact ⟨rfl, rfl, rfl, trivial⟩) (by kernel_rfl) (by kernel_rfl) (by kernel_rfl) ?_ | refine akR 1 rfl (fun T' ok => op_load_rop1 rfl rfl ag23) (by first | exact trivial | exact ⟨rfl, trivial⟩ | exact ⟨rfl, rfl, trivial⟩ | exact ⟨rfl, rfl, rfl, trivial⟩) (by kernel_rfl) (by kernel_rfl) (by kernel_rfl) ?_); (try simp only [nA, Nat.reduceBEq, Nat.reduceEqDiff, ↓reduceIte, Nat.reduceAdd, Nat.reduceSub])
        refine akP 2 rfl (fun T' ok => op_move rfl rfl) (by first | exact trivial | exact ⟨rfl, trivial⟩ | exact ⟨rfl, rfl, trivial⟩ | exact ⟨rfl, rfl, rfl, trivial⟩) (by kernel_rfl) (by kernel_rfl) (by kernel_rfl) ?_; (try simp only [nA, Nat.reduceBEq, Nat.reduceEqDiff, ↓reduceIte, Nat.reduceAdd, Nat.reduceSub])
        (first | refine akP 3 rfl (fun T' ok => op_fa_ptr rfl rfl (by first | exact ok.1 | exact ok.2.1 | exact ok.2.2.1 | exact ok.2.2.2.1) fl42_2 (by exact sz23) (by decide) rfl) (by first | exact trivial | exact ⟨rfl, trivial⟩ | exact ⟨rfl, rfl, trivial⟩ | exact ⟨rfl, rfl, rfl, trivial⟩) (by kernel_rfl) (by kernel_rfl) (by kernel_rfl) ?_ | refine akP 3 rfl (fun T' ok => op_fa_rop rfl rfl fl42_2 (by exact sz23) (by decide) (Nat.le_of_ble_eq_true rfl) rfl) (by first | exact trivial | exact ⟨rfl, trivial⟩ | exact ⟨rfl, rfl, trivial⟩ | exact ⟨rfl, rfl, rfl, trivial⟩) (by kernel_rfl) (by kernel_rfl) (by kernel_rfl) ?_); (try simp only [nA, Nat.reduceBEq, Nat.reduceEqDiff, ↓reduceIte, Nat.reduceAdd, Nat.reduceSub])
        (first | refine akR 4 rfl (fun T' ok => op_load_ptr1 rfl rfl (by first | exact ok.1 | exact ok.2.1 | exact ok.2.2.1 | exact ok.2.2.2.1) rfl ag23 rfl rfl) (by first | exact trivial | exact ⟨rfl, trivial⟩ | exact ⟨rfl, rfl, trivial⟩ | exact ⟨rfl, rfl, rfl, trivial⟩) (by kernel_rfl) (by kernel_rfl) (by kernel_rfl) ?_ | refine akR 4 rfl (fun T' ok => op_load_rop1 rfl rfl ag23) (by first | exact trivial | exact ⟨rfl, trivial⟩ | exact ⟨rfl, rfl, trivial⟩ | exact ⟨rfl, rfl, rfl, trivial⟩) (by kernel_rfl) (by kernel_rfl) (by kernel_rfl) ?_); (try simp only [nA, Nat.reduceBEq, Nat.reduceEqDiff, ↓reduceIte, Nat.reduceAdd, Nat.reduceSub])
        refine akP 5 rfl (fun T' ok => op_len_v rfl rfl Try.underlying23) (by first | exact trivial | exact ⟨rfl, trivial⟩ | exact ⟨rfl, rfl, trivial⟩ | exact ⟨rfl, rfl, rfl, trivial⟩) (by kernel_rfl) (by kernel_rfl) (by kernel_rfl) ?_; (try simp only [nA, Nat.reduceBEq, Nat.reduceEqDiff, ↓reduceIte, Nat.reduceAdd, Nat.reduceSub])
        refine akP 9 rfl (fun T' ok => op_move rfl rfl) (by first | exact trivial | exact ⟨rfl, trivial⟩ | exact ⟨rfl, rfl, trivial⟩ | exact ⟨rfl, rfl, rfl, trivial⟩) (by kernel_rfl) (by kernel_rfl) (by kernel_rfl) ?_; (try simp only [nA, Nat.reduceBEq, Nat.reduceEqDiff, ↓reduceIte, Nat.reduceAdd, Nat.reduceSub]); refine akF 10 rfl (fun T' ok => OpJ.frz (op_buildSlice rfl [(0, iv (-1)), (1, iv 1), (2, iv (-30)), (3, iv 1073741824)] (bC4.map iv) Try.underlying23 ze3 rfl (by simp [bC4]) (fold_dense 1 (bC4.map iv) (iv_len _)) (iv_len _) rfl (Nat.le_of_ble_eq_true rfl) (by simp [bC4, maxLen])) (iv_flat bC4) rfl) (by first | exact trivial | exact ⟨rfl, trivial⟩ | exact ⟨rfl, rfl, trivial⟩ | exact ⟨rfl, rfl, rfl, trivial⟩) (by kernel_rfl) (by kernel_rfl) (by kernel_rfl) ?_; (try simp only [nA, Nat.reduceBEq, Nat.reduceEqDiff, ↓reduceIte, Nat.reduceAdd, Nat.reduceSub])
        -- READY [6, 10]
        refine akJ 6 rfl (op_call1 rfl en29 (C29 hl (n := (m.cols.length : Nat)) (by omega)) (by exact rfl) (RL.cons .ptr (RL.cons (.base (by first | exact View.same rfl | exact View.nil | exact View.rof | exact View.src .ro | exact View.src .rof | exact View.src (.sl rfl rfl) | exact View.ptr rfl rfl rfl)) (RL.nil))) (by exact ⟨_, _, _, rfl, rfl, rfl⟩) (by exact rfl) (by exact rfl) (by exact rfl)) (by kernel_rfl) (by first | exact trivial | exact ⟨rfl, trivial⟩ | exact ⟨rfl, rfl, trivial⟩ | exact ⟨rfl, rfl, rfl, trivial⟩) ?_; (try simp only [nA, Nat.reduceBEq, Nat.reduceEqDiff, ↓reduceIte, Nat.reduceAdd, Nat.reduceSub])
        refine akP 7 rfl (fun T' ok => op_ia_v (ixV l k m.cols.length) 1 rfl rfl rfl Try.underlying23 hi1 hl1 sz3 rfl) (by first | exact trivial | exact ⟨rfl, trivial⟩ | exact ⟨rfl, rfl, trivial⟩ | exact ⟨rfl, rfl, rfl, trivial⟩) (by kernel_rfl) (by kernel_rfl) (by kernel_rfl) ?_; (try simp only [nA, Nat.reduceBEq, Nat.reduceEqDiff, ↓reduceIte, Nat.reduceAdd, Nat.reduceSub])
        refine akR 8 rfl (fun T' ok => op_load_v 4 q3 (ixV l k m.cols.length) 0 rfl rfl ok.2.1 (gI_mapD hl1) ag3 sz3 rfl rfl rfl) (by first | exact trivial | exact ⟨rfl, trivial⟩ | exact ⟨rfl, rfl, trivial⟩ | exact ⟨rfl, rfl, rfl, trivial⟩) (by kernel_rfl) (by kernel_rfl) (by kernel_rfl) ?_; (try simp only [nA, Nat.reduceBEq, Nat.reduceEqDiff, ↓reduceIte, Nat.reduceAdd, Nat.reduceSub])
        skip
        refine akJ 11 rfl (op_call1 rfl en30 (C30 (xs := bC4) hl (by decide) (by decide)) (by exact rfl) (RL.cons .ptr (RL.cons (.base (by first | exact View.same rfl | exact View.nil | exact View.rof | exact View.src .ro | exact View.src .rof | exact View.src (.sl rfl rfl) | exact View.ptr rfl rfl rfl)) (RL.nil))) (by exact ⟨_, _, _, rfl, rfl, rfl⟩) (by exact rfl) (by exact rfl) (by exact rfl)) (by kernel_rfl) (by first | exact trivial | exact ⟨rfl, trivial⟩ | exact ⟨rfl, rfl, trivial⟩ | exact ⟨rfl, rfl, rfl, trivial⟩) ?_; (try simp only [nA, Nat.reduceBEq, Nat.reduceEqDiff, ↓reduceIte, Nat.reduceAdd, Nat.reduceSub])
        (first | refine akP 12 rfl (fun T' ok => op_addi rfl rfl rfl (by omega)) (by first | exact trivial | exact ⟨rfl, trivial⟩ | exact ⟨rfl, rfl, trivial⟩ | exact ⟨rfl, rfl, rfl, trivial⟩) (by kernel_rfl) (by kernel_rfl) (by kernel_rfl) ?_ | refine akP 12 rfl (fun T' ok => op_add rfl rfl rfl rfl) (by first | exact trivial | exact ⟨rfl, trivial⟩ | exact ⟨rfl, rfl, trivial⟩ | exact ⟨rfl, rfl, rfl, trivial⟩) (by kernel_rfl) (by kernel_rfl) (by kernel_rfl) ?_); (try simp only [nA, Nat.reduceBEq, Nat.reduceEqDiff, ↓reduceIte, Nat.reduceAdd, Nat.reduceSub])
        refine akP 13 rfl (fun T' ok => op_ia_v (ixV l k m.cols.length) 1 rfl rfl rfl Try.underlying23 hi1 hl1 sz3 rfl) (by first | exact trivial | exact ⟨rfl, trivial⟩ | exact ⟨rfl, rfl, trivial⟩ | exact ⟨rfl, rfl, rfl, trivial⟩) (by kernel_rfl) (by kernel_rfl) (by kernel_rfl) ?_; (try simp only [nA, Nat.reduceBEq, Nat.reduceEqDiff, ↓reduceIte, Nat.reduceAdd, Nat.reduceSub])
        refine akL 14 rfl (op_store_v 4 q3 (ixV l k m.cols.length) 0 rfl rfl rfl rfl (gI_mapD hl1) rfl sz3 rfl sz3 rfl (Nat.le_of_ble_eq_true rfl) (es' := (m.cols.set (ixV l k m.cols.length) (w64 (gI m.cols (ixV l k m.cols.length) + pickV l (it2 l k) bC4))).map iv) (by rw [List.map_set]; rfl) rfl) (by kernel_rfl) (by decide) ?_; (try simp only [nA, Nat.reduceBEq, Nat.reduceEqDiff, ↓reduceIte, Nat.reduceAdd, Nat.reduceSub])
        refine akDone (by kernel_rfl) ?_
        (try simp only [thenE, inBlk, Nat.reduceEqDiff, ↓reduceIte])
        refine ⟨(({ m with cols := m.cols.set (ixV l k m.cols.length) (w64 (gI m.cols (ixV l k m.cols.length) + pickV l (it2 l k) bC4)) }, rawN l (it2 l k)), (A1, c1), (A2, c2), (some ⟨g, 0, none⟩, c3), q1, q2, q3, e), ⟨(by unfold bentF; rw [if_neg hc1, if_neg hc2, if_neg hc4, if_pos hc6, if_pos (by omega)]), ⟨hA1, hz1⟩, ⟨hA2, hz2⟩, (by dsimp only; rw [List.length_set]; exact ⟨hA3, hz3⟩)⟩, ⟨rfl, rfl, trivial⟩, (by dsimp only; rw [List.length_set, nmE_pos (es := (m.cols.set _ _).map iv) (by simp; omega)]), (by first | rfl | trivial)⟩
       ·
        (try simp only [hcS] at hc); have hc7 := hc; skip
        refine AW.skip ?_
        (try simp only [thenE, inBlk, Nat.reduceEqDiff, ↓reduceIte])
        refine ⟨((m, rawN l k), (A1, c1), (A2, c2), (A3, c3), q1, q2, q3, e), ⟨(by unfold bentF; rw [if_neg hc1, if_neg hc2, if_neg hc4, if_pos hc6, if_neg (by omega)]), ⟨hA1, hz1⟩, ⟨hA2, hz2⟩, ⟨hA3, hz3⟩⟩, ⟨rfl, rfl, trivial⟩, (by first | rfl | trivial), (by first | rfl | trivial)⟩
      ·
       (try simp only [hcS] at hc); have hc6 := hc; skip
       (refine AW.seq_k ?_; intro K hK)
       refine AW.region ?_
       (first | refine awP (op_eql rfl rfl rfl) ?_ | refine awP (op_seql rfl rfl rfl) ?_)
       refine awP (op_assign rfl rfl) ?_
       refine AWL.nil ?_
       (refine hK _ ?_; clear hK K; (try simp only [nA, Nat.reduceBEq, Nat.reduceEqDiff, ↓reduceIte, Nat.reduceAdd, Nat.reduceSub]))
       refine AW.cond rfl rfl rfl (fun hc => ?_) (fun hc => ?_)
       ·
        (try simp only [hcS] at hc); have hc8 := hc; skip
        refine AW.region ?_
        (first | refine awP (op_fa_ptr rfl rfl rfl fl42_2 (by exact sz23) (by decide) rfl) ?_ | refine awP (op_fa_rop rfl rfl fl42_2 (by exact sz23) (by decide) (Nat.le_of_ble_eq_true rfl) rfl) ?_)
        (first | refine awR (op_load_ptr1 rfl rfl rfl rfl ag23 rfl rfl) ?_ | refine awR (op_load_rop1 rfl rfl ag23) ?_)
        refine awJ (OpJ.frz (op_buildSlice rfl [(0, iv 0)] [iv 0] Try.underlying23 ze3 rfl (by simp) rfl (by simp) rfl (Nat.le_of_ble_eq_true rfl) (by simp [maxLen])) (iv_flat [0]) rfl) ?_; (try simp only [nA, Nat.reduceBEq, Nat.reduceEqDiff, ↓reduceIte, Nat.reduceAdd, Nat.reduceSub])
        rcases Nat.eq_zero_or_pos m.cols.length with hcl | hcl
        · rw [nmE_nil (es := m.cols.map iv) (by rw [List.length_map]; exact hcl)]
          refine awX (OpJ.nmS ((op_app_z (rows := [iv 0]) rfl (.inr ⟨A3, (by show AV.v (.slice A3 m.cols.length c3) = _; rw [hcl, hz3 hcl])⟩) rfl .ro Try.underlying23 ze3 (by decide) (iv_len [0]) (by decide) (by decide) (by decide) (n := 1) rfl).at 4 rfl rfl) rfl rfl) ?_; rintro _ _ ⟨u, hu, rfl, rfl⟩; obtain ⟨g, c, rfl⟩ := hu (by decide); (try simp only [nA, Nat.reduceBEq, Nat.reduceEqDiff, ↓reduceIte, Nat.reduceAdd, Nat.reduceSub])
          refine awP (op_fa_ptr rfl rfl rfl fl42_2 (by exact sz23) (by decide) rfl) ?_
          refine awJ (op_store rfl rfl rfl rfl rfl rfl sz23 rfl (Nat.le_of_ble_eq_true rfl) rfl) ?_; (try simp only [nA, Nat.reduceBEq, Nat.reduceEqDiff, ↓reduceIte, Nat.reduceAdd, Nat.reduceSub])
          refine AWL.nil ?_
          (try simp only [thenE, inBlk, Nat.reduceEqDiff, ↓reduceIte])
          have hce : m.cols = [] := List.eq_nil_of_length_eq_zero hcl
          refine ⟨(({ m with cols := m.cols ++ [0] }, rawN l k), (A1, c1), (A2, c2), (some ⟨g, 0, none⟩, c), q1, q2, _, _), ⟨(by unfold bentF; rw [if_neg hc1, if_neg hc2, if_neg hc4, if_neg hc6, if_pos hc8]), ⟨hA1, hz1⟩, ⟨hA2, hz2⟩, ⟨fun _ => ⟨g, rfl⟩, fun h => (by simp at h)⟩⟩, ⟨rfl, rfl, trivial⟩, (by dsimp only; rw [hce, nmE_pos (es := ([] ++ [0] : List Int).map iv) (by decide)]; rfl), (by first | rfl | trivial)⟩
        · obtain ⟨g0, rfl⟩ := hA3 hcl
          rw [nmE_pos (es := m.cols.map iv) (by simp; exact hcl)]
          refine AWL.gh (Gh.openN (r := 4) 114 (Nat.le_of_ble_eq_true rfl) rfl rfl) ?_; (try simp only [nA, Nat.reduceBEq, Nat.reduceEqDiff, ↓reduceIte, Nat.reduceAdd, Nat.reduceSub])
          refine awX (OpJ.nmS (op_app (rows := [iv 0]) rfl rfl rfl rfl (by simp) .ro Try.underlying23 ze3 (by decide) (iv_len [0]) (by simp; omega) (by decide) (es' := (m.cols ++ [0]).map iv) (by simp) (n := (m.cols ++ [0]).length) (by simp)) rfl (by simp)) ?_; rintro _ _ ⟨u, hu, rfl, rfl⟩; obtain ⟨g, c, rfl⟩ := hu (by simp); (try simp only [nA, Nat.reduceBEq, Nat.reduceEqDiff, ↓reduceIte, Nat.reduceAdd, Nat.reduceSub])
          refine awP (op_fa_ptr rfl rfl rfl fl42_2 (by exact sz23) (by decide) rfl) ?_
          refine awJ (op_store rfl rfl rfl rfl rfl rfl sz23 rfl (Nat.le_of_ble_eq_true rfl) rfl) ?_; (try simp only [nA, Nat.reduceBEq, Nat.reduceEqDiff, ↓reduceIte, Nat.reduceAdd, Nat.reduceSub])
          refine AWL.nil ?_
          (try simp only [thenE, inBlk, Nat.reduceEqDiff, ↓reduceIte])
          refine ⟨(({ m with cols := m.cols ++ [0] }, rawN l k), (A1, c1), (A2, c2), (some ⟨g, 0, none⟩, c), q1, q2, _, _), ⟨(by unfold bentF; rw [if_neg hc1, if_neg hc2, if_neg hc4, if_neg hc6, if_pos hc8]), ⟨hA1, hz1⟩, ⟨hA2, hz2⟩, ⟨fun _ => ⟨g, rfl⟩, fun h => (by simp at h)⟩⟩, ⟨rfl, rfl, trivial⟩, (by dsimp only; rw [nmE_pos (es := List.map iv (m.cols ++ [0] : List Int)) (by simp)]), (by first | rfl | trivial)⟩
       ·
        (try simp only [hcS] at hc); have hc8 := hc; skip
        (refine AW.seq_k ?_; intro K hK)
        refine AW.region (AWL.quiet ?_)
        (first | refine aqP (op_fa_ptr rfl rfl rfl fl42_1 (by exact sz23) (by decide) rfl) ?_ | refine aqP (op_fa_rop rfl rfl fl42_1 (by exact sz23) (by decide) (Nat.le_of_ble_eq_true rfl) rfl) ?_)
        (first | refine aqR (op_load_ptr1 rfl rfl rfl rfl ag23 rfl rfl) ?_ | refine aqR (op_load_rop1 rfl rfl ag23) ?_)
        refine aqP (op_len_v rfl rfl Try.underlying23) ?_
        refine aqP (op_gtr rfl rfl rfl) ?_
        refine aqP (op_move rfl rfl) ?_
        refine' aqAnd' [_, _, _, _] [28,29,30,31] rfl rfl rfl rfl rfl rfl rfl rfl rfl rfl rfl rfl (fun hb => ?_) ?_; rotate_left
        ·
         (try simp only [hcS] at hb)
         (first | refine aqP (op_fa_ptr rfl rfl rfl fl42_2 (by exact sz23) (by decide) rfl) ?_ | refine aqP (op_fa_rop rfl rfl fl42_2 (by exact sz23) (by decide) (Nat.le_of_ble_eq_true rfl) rfl) ?_)
         (first | refine aqR (op_load_ptr1 rfl rfl rfl rfl ag23 rfl rfl) ?_ | refine aqR (op_load_rop1 rfl rfl ag23) ?_)
         refine aqP (op_len_v rfl rfl Try.underlying23) ?_
         refine aqP (op_gtr rfl rfl rfl) ?_
         (refine aqSeg rfl rfl rfl ?_; repeat (first | exact fun _ _ => rfl | refine upd_out rfl ?_ | refine era_out rfl ?_))
        (try simp only [nA, Nat.reduceBEq, Nat.reduceEqDiff, ↓reduceIte, Nat.reduceAdd, Nat.reduceSub])
        refine AQ.nil ?_
        (refine hK _ ?_; clear hK K; (try simp only [nA, Nat.reduceBEq, Nat.reduceEqDiff, ↓reduceIte, Nat.reduceAdd, Nat.reduceSub]))
        refine AW.cond rfl rfl rfl (fun hc => ?_) (fun hc => ?_)
        ·
         (try simp only [hcS] at hc); have hc9 := hc; obtain ⟨g2, rfl⟩ := hA2 (by omega); obtain ⟨g3, rfl⟩ := hA3 (by omega); rw [nmE_pos (es := m.rows.map iv) (by simp; omega), nmE_pos (es := m.cols.map iv) (by simp; omega)]
         (refine AW.seq_k ?_; intro K hK)
         refine AW.region ?_
         (first | refine awP (op_fa_ptr rfl rfl rfl fl42_1 (by exact sz23) (by decide) rfl) ?_ | refine awP (op_fa_rop rfl rfl fl42_1 (by exact sz23) (by decide) (Nat.le_of_ble_eq_true rfl) rfl) ?_)
         (first | refine awR (op_load_ptr1 rfl rfl rfl rfl ag23 rfl rfl) ?_ | refine awR (op_load_rop1 rfl rfl ag23) ?_)
         refine awP (op_ia_v 0 1 rfl rfl rfl Try.underlying23 rfl (by omega) sz3 rfl) ?_
         refine awR (op_load_v 3 q2 0 0 rfl rfl rfl (gI_mapD (by omega)) ag3 sz3 rfl rfl rfl) ?_
         (first | refine awP (op_addi rfl rfl rfl (by omega)) ?_ | refine awP (op_add rfl rfl rfl rfl) ?_)
         refine awP (op_ia_v 0 1 rfl rfl rfl Try.underlying23 rfl (by omega) sz3 rfl) ?_
         refine awJ (op_store_v 3 q2 0 0 rfl rfl rfl rfl (gI_mapD (by omega)) rfl sz3 rfl sz3 rfl (Nat.le_of_ble_eq_true rfl) (es' := (m.rows.set 0 (w64 (gI m.rows 0 + 1))).map iv) (by rw [List.map_set]; rfl) rfl) ?_; (try simp only [nA, Nat.reduceBEq, Nat.reduceEqDiff, ↓reduceIte, Nat.reduceAdd, Nat.reduceSub])
         refine AWL.nil ?_
         (refine hK _ ?_; clear hK K; (try simp only [nA, Nat.reduceBEq, Nat.reduceEqDiff, ↓reduceIte, Nat.reduceAdd, Nat.reduceSub]))
         refine AW.region ?_
         (first | refine awP (op_fa_ptr rfl rfl rfl fl42_2 (by exact sz23) (by decide) rfl) ?_ | refine awP (op_fa_rop rfl rfl fl42_2 (by exact sz23) (by decide) (Nat.le_of_ble_eq_true rfl) rfl) ?_)
         (first | refine awR (op_load_ptr1 rfl rfl rfl rfl ag23 rfl rfl) ?_ | refine awR (op_load_rop1 rfl rfl ag23) ?_)
         refine awP (op_ia_v 0 1 rfl rfl rfl Try.underlying23 rfl (by omega) sz3 rfl) ?_
         refine awR (op_load_v 4 q3 0 0 rfl rfl rfl (gI_mapD (by omega)) ag3 sz3 rfl rfl rfl) ?_
         (first | refine awP (op_subi rfl rfl rfl (by omega)) ?_ | refine awP (op_sub rfl rfl rfl rfl) ?_)
         refine awP (op_ia_v 0 1 rfl rfl rfl Try.underlying23 rfl (by omega) sz3 rfl) ?_
         refine awJ (op_store_v 4 q3 0 0 rfl rfl rfl rfl (gI_mapD (by omega)) rfl sz3 rfl sz3 rfl (Nat.le_of_ble_eq_true rfl) (es' := (m.cols.set 0 (w64 (gI m.cols 0 - 1))).map iv) (by rw [List.map_set]; rfl) rfl) ?_; (try simp only [nA, Nat.reduceBEq, Nat.reduceEqDiff, ↓reduceIte, Nat.reduceAdd, Nat.reduceSub])
         refine AWL.nil ?_
         (try simp only [thenE, inBlk, Nat.reduceEqDiff, ↓reduceIte])
         refine ⟨(({ m with rows := m.rows.set 0 (w64 (gI m.rows 0 + 1)), cols := m.cols.set 0 (w64 (gI m.cols 0 - 1)) }, rawN l k), (A1, c1), (some ⟨g2, 0, none⟩, c2), (some ⟨g3, 0, none⟩, c3), q1, q2, q3, e), ⟨(by unfold bentF; rw [if_neg hc1, if_neg hc2, if_neg hc4, if_neg hc6, if_neg hc8, if_pos (by omega)]), ⟨hA1, hz1⟩, (by dsimp only; rw [List.length_set]; exact ⟨hA2, hz2⟩), (by dsimp only; rw [List.length_set]; exact ⟨hA3, hz3⟩)⟩, ⟨rfl, rfl, trivial⟩, (by dsimp only; rw [List.length_set, List.length_set, nmE_pos (es := (m.rows.set _ _).map iv) (by simp; omega), nmE_pos (es := (m.cols.set _ _).map iv) (by simp; omega)]), (by first | rfl | trivial)⟩
        ·
         (try simp only [hcS] at hc); have hc9 := hc; skip
         refine AW.skip ?_
         (try simp only [thenE, inBlk, Nat.reduceEqDiff, ↓reduceIte])
         refine ⟨((m, rawN l k), (A1, c1), (A2, c2), (A3, c3), q1, q2, q3, e), ⟨(by unfold bentF; rw [if_neg hc1, if_neg hc2, if_neg hc4, if_neg hc6, if_neg hc8, if_neg (by omega)]), ⟨hA1, hz1⟩, ⟨hA2, hz2⟩, ⟨hA3, hz3⟩⟩, ⟨rfl, rfl, trivial⟩, (by first | rfl | trivial), (by first | rfl | trivial)⟩
  rintro ⟨⟨m', k'⟩, ⟨A1, c1⟩, ⟨A2, c2⟩, ⟨A3, c3⟩, q1, q2, q3, e⟩ ρ1 ⟨hbf, ⟨hA1, hz1⟩, ⟨hA2, hz2⟩, ⟨hA3, hz3⟩⟩; simp only [updL]; (try simp only [nA, Nat.reduceBEq, Nat.reduceEqDiff, ↓reduceIte, Nat.reduceAdd, Nat.reduceSub]); dsimp only at hbf hz1 hz2 hz3 ⊢; refine AW.gh (Gh.nestE (r := 5) (q := 2) 0 0 rfl rfl rfl rfl (by decide) (by simp) hz1 (iv_flat _) (es2 := [[.ro (m'.pairs.map iv), .v (.slice A2 m'.rows.length c2), .v (.slice A3 m'.cols.length c3), .v (.int .i64 m'.total)]]) rfl) ?_; (try simp only [nA, Nat.reduceBEq, Nat.reduceEqDiff, ↓reduceIte, Nat.reduceAdd, Nat.reduceSub]); refine AW.gh (Gh.nestE (r := 5) (q := 3) 0 1 rfl rfl rfl rfl (by decide) (by simp) hz2 (iv_flat _) (es2 := [[.ro (m'.pairs.map iv), .ro (m'.rows.map iv), .v (.slice A3 m'.cols.length c3), .v (.int .i64 m'.total)]]) rfl) ?_; (try simp only [nA, Nat.reduceBEq, Nat.reduceEqDiff, ↓reduceIte, Nat.reduceAdd, Nat.reduceSub]); refine AW.gh (Gh.nestE (r := 5) (q := 4) 0 2 rfl rfl rfl rfl (by decide) (by simp) hz3 (iv_flat _) (es2 := [m'.av]) rfl) ?_; (try simp only [nA, Nat.reduceBEq, Nat.reduceEqDiff, ↓reduceIte, Nat.reduceAdd, Nat.reduceSub])
  (refine AW.seq_k ?_; intro K hK)
  refine AW.region ?_
  (first | refine awR (op_load_ptr rfl rfl rfl rfl ag42 sz42 (Nat.le_of_ble_eq_true rfl) rfl) ?_ | refine awR (op_load_rop rfl rfl ag42 sz42 (Nat.le_of_ble_eq_true rfl) (by decide) rfl) ?_)
  refine awJ (op_store rfl rfl rfl rfl rfl rfl sz42 rfl (Nat.le_of_ble_eq_true rfl) rfl) ?_; (try simp only [nA, Nat.reduceBEq, Nat.reduceEqDiff, ↓reduceIte, Nat.reduceAdd, Nat.reduceSub])
  refine AWL.nil ?_
  (refine hK _ ?_; clear hK K; (try simp only [nA, Nat.reduceBEq, Nat.reduceEqDiff, ↓reduceIte, Nat.reduceAdd, Nat.reduceSub]))
  skip
  refine AW.ret ?_; (try simp only [thenE, inBlk, Nat.reduceEqDiff, ↓reduceIte]); rw [← hbf]; exact RQ.of (.inl rfl) rfl (.cell (Nat.le_of_ble_eq_true rfl) rfl rfl rfl ag42 sz42 (Nat.le_of_ble_eq_true rfl) rfl rfl .nil) (by simp) rfl (one_out rfl)
end Go.Proofs.Ytjgbbffcjbmjmaa
