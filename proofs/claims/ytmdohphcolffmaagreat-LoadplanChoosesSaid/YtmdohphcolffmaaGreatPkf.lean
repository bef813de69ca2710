import Derived.Test.YtmdohphcolffmaaGreatPke
import Derived.Shelf.SlSortFuncK.SWK
import Derived.Ground.GgsProg
import Derived.Shelf.GgSortFunc.Tiny
import Derived.Shelf.SlSortFuncK.WholeK
namespace Go.Proofs.YtmdohphcolffmaaGreat
set_option maxHeartbeats 8000000
open Go.RowKit
set_option linter.unusedSimpArgs false
set_option linter.unusedVariables false
set_option maxRecDepth 100000
def listEq {α : Type} [Inhabited α] (eq : α → α → Bool) (a b : List α) : Bool := decide ((a.length : Int) = b.length) && (List.range a.length).all fun i => eq (a.getD i default) (b.getD i default)
structure Sml (l : List Container) : Prop where
 len : l.length ≤ 1000000
 p : ∀ c ∈ l, c.pieces.length ≤ 1000000000
theorem C21 {l : List Container} {f : Flight} {p : Piece} (hs : Sml l) : Fn Tryz.prog 21 [] [.ro (l.map Container.av), .agg f.av, .agg p.av] [.v (.int .i64 (choV l f p).1), .v (.int .i64 (choV l f p).2)] [] := by
 refine Spec.body Tryz.func21 rfl Tryz.ntmps21 (by simp) rfl ?_; intro S0 own0 v0 w0
 refine zA fun K hK => zB ?_
 refine yB (yL rfl rfl rfl sz25 rfl) ?_; simp only [nA, Nat.reduceBEq, Nat.reduceEqDiff, ↓reduceIte]
 refine yB (yL rfl rfl rfl sz35 rfl) ?_; simp only [nA, Nat.reduceBEq, Nat.reduceEqDiff, ↓reduceIte]
 refine zF (zD rfl rfl) ?_
 refine zF (zD rfl rfl) ?_
 refine zE (hK _ ?_); clear hK K; try simp only [nA, Nat.reduceBEq, Nat.reduceEqDiff, ↓reduceIte, Nat.reduceAdd, Nat.reduceSub]
 refine zA fun K hK => ?_
 refine zA fun K hK => zB ?_
 refine zF (zC rfl rfl) ?_
 refine yB (OpQ.j (zT (b := true) rfl en37 (C37 (xs := l) hs.len) (RL.cons (by exact View.same rfl) (RL.nil)) rfl)) ?_; simp only [nA, ↓reduceIte]
 refine zF (zD rfl rfl) ?_
 refine zE (hK _ ?_); clear hK K; simp only [nA]
 refine zA fun K hK => zB ?_
 refine zF (zC rfl rfl) ?_
 refine zF (op_neq rfl rfl rfl) ?_
 refine zE (hK _ ?_); clear hK K; simp only [nA]
 refine zL rfl rfl rfl (fun hc => ?_) (fun hc => ?_)
 ·
  have hc1 := hc; have g1 : chkL l ≠ 0 := (by simpa using hc1)
  refine zA fun K hK => zB ?_
  refine zF (zC rfl rfl) ?_
  refine zF (zD rfl rfl) ?_
  refine zF (zD rfl rfl) ?_
  refine zE (hK _ ?_); clear hK K; simp only [nA, ↓reduceIte]
  skip
  refine zO ?_; (try simp only [zJ, zK, Nat.reduceEqDiff, ↓reduceIte]); rw [show choV l f p = (0, chkL l) by unfold choV; rw [if_pos g1]]; exact zS rfl (.tmp (bl rfl) rfl rfl (.tmp (bl rfl) rfl rfl .nil))
 have hc1 := hc; have g1 : chkL l = 0 := (by simpa using hc1); have hfit := (InvO.of g1).fit
 refine zN ?_
 refine hK _ ?_; clear hK K
 refine zA fun K hK => ?_
 refine zA fun K hK => zB ?_
 refine awR (zI rfl rfl rfl rfl ag35 sz35 (bl rfl) rfl) ?_
 refine yB (OpQ.j (zT (b := true) rfl en41 (C41 (p := p)) (RL.cons (by exact View.same rfl) (RL.nil)) rfl)) ?_; try simp only [nA, Nat.reduceBEq, Nat.reduceEqDiff, ↓reduceIte, Nat.reduceAdd, Nat.reduceSub]
 refine zF (op_not rfl rfl rfl) ?_
 refine zE (hK _ ?_); clear hK K; try simp only [nA, Nat.reduceBEq, Nat.reduceEqDiff, ↓reduceIte, Nat.reduceAdd, Nat.reduceSub]
 refine zL rfl rfl rfl (fun hc => ?_) (fun hc => ?_)
 ·
  have hc2 := hc; have g2 : piB p = false := (by simpa using hc2)
  refine zA fun K hK => zB ?_
  refine zF (zD rfl rfl) ?_
  refine zF (zD rfl rfl) ?_
  refine zE (hK _ ?_); clear hK K; try simp only [nA, Nat.reduceBEq, Nat.reduceEqDiff, ↓reduceIte, Nat.reduceAdd, Nat.reduceSub]
  skip
  refine zO ?_; (try simp only [zJ, zK, Nat.reduceEqDiff, ↓reduceIte]); rw [show choV l f p = (0, 1) by unfold choV; rw [if_neg (by simp [g1]), if_pos g2]]; exact zS rfl (.tmp (bl rfl) rfl rfl (.tmp (bl rfl) rfl rfl .nil))
 have hc2 := hc; have g2 : piB p = true := (by simpa using hc2)
 refine zN ?_
 refine hK _ ?_; clear hK K
 refine zA fun K hK => ?_
 refine zA fun K hK => zB ?_
 refine zF (zC rfl rfl) ?_
 refine zF (zH rfl rfl rfl fl35_0 (by exact sz23) (by decide) rfl) ?_
 refine awR (zI rfl rfl rfl rfl ag23 sz23 (bl rfl) rfl) ?_
 refine yB (op_call (b := false) rfl en42 (C42 (xs := l) (p := p.plate) hs.len hs.p) (RL.cons (by exact View.same rfl) (RL.cons (by exact View.same rfl) (RL.nil))) rfl (fun h => by cases h) rfl rfl) ?_; simp only [nA, ↓reduceIte]
 refine zF (zC rfl rfl) ?_
 refine zF (zZ rfl rfl rfl) ?_
 refine zF (zZ rfl rfl rfl) ?_
 refine zF (zD rfl rfl) ?_
 refine zF (zD rfl rfl) ?_
 refine zE (hK _ ?_); clear hK K; simp only [nA, ↓reduceIte]
 refine zA fun K hK => zB ?_
 refine zF (zC rfl rfl) ?_
 refine zE (hK _ ?_); clear hK K; simp only [nA]
 refine zL rfl rfl rfl (fun hc => ?_) (fun hc => ?_)
 ·
  have hc3 := hc; have g3 : (findL l p.plate).2 = true := hc3
  refine zA fun K hK => zB ?_
  refine zF (zD rfl rfl) ?_
  refine zF (zD rfl rfl) ?_
  refine zE (hK _ ?_); clear hK K; try simp only [nA, Nat.reduceBEq, Nat.reduceEqDiff, ↓reduceIte, Nat.reduceAdd, Nat.reduceSub]
  skip
  refine zO ?_; (try simp only [zJ, zK, Nat.reduceEqDiff, ↓reduceIte]); rw [show choV l f p = (0, 5) by unfold choV; rw [if_neg (by simp [g1]), if_neg (by simp [g2]), if_pos g3]]; exact zS rfl (.tmp (bl rfl) rfl rfl (.tmp (bl rfl) rfl rfl .nil))
 have hc3 := hc; have g3 : (findL l p.plate).2 = false := hc3
 refine zN ?_
 refine hK _ ?_; clear hK K
 refine zA fun K hK => zB ?_
 refine zF (zC rfl rfl) ?_
 refine awR (zI rfl rfl rfl rfl ag25 sz25 (bl rfl) rfl) ?_
 refine awR (zI rfl rfl rfl rfl ag35 sz35 (bl rfl) rfl) ?_
 refine yB (op_call (b := false) rfl en43 (C43 (l := l) (f := f) (p := p) hfit g2) (RL.cons (by exact View.same rfl) (RL.cons (by exact View.same rfl) (RL.cons (by exact View.same rfl) (RL.nil)))) rfl (fun h => by cases h) rfl rfl) ?_; simp only [nA, ↓reduceIte]
 refine zF (zC rfl rfl) ?_
 refine zF (zZ rfl rfl rfl) ?_
 refine zF (zZ rfl rfl rfl) ?_
 refine zF (zD rfl rfl) ?_
 refine zF (zD rfl rfl) ?_
 refine zE (hK _ ?_); clear hK K; simp only [nA, ↓reduceIte]
 refine zA fun K hK => zP ?_
 refine zA fun K hK => zB ?_
 refine zF (zC rfl rfl) ?_
 refine zF (op_not rfl rfl rfl) ?_
 refine zF (zD rfl rfl) ?_
 refine zE (hK _ ?_); clear hK K; simp only [nA]
 refine zL rfl rfl rfl (fun hc => ?_) (fun hc => ?_)
 ·
  have hc4 := hc; have g4 : anyF l f = false := (by simpa using hc4)
  refine zA fun K hK => zB ?_
  refine zF (zD rfl rfl) ?_
  refine zF (zD rfl rfl) ?_
  refine zE (hK _ ?_); clear hK K; try simp only [nA, Nat.reduceBEq, Nat.reduceEqDiff, ↓reduceIte, Nat.reduceAdd, Nat.reduceSub]
  skip
  refine zO ?_; (try simp only [zJ, zK, Nat.reduceEqDiff, ↓reduceIte]); rw [show choV l f p = (0, 6) by unfold choV; rw [if_neg (by simp [g1]), if_neg (by simp [g2]), if_neg (by simp [g3]), if_pos g4]]; exact zS rfl (.tmp (bl rfl) rfl rfl (.tmp (bl rfl) rfl rfl .nil))
 have hc4 := hc; have g4 : anyF l f = true := (by simpa using hc4)
 refine zA fun K hK => zB ?_
 refine zF (zC rfl rfl) ?_
 refine zF (op_lss rfl rfl rfl) ?_
 refine zF (zD rfl rfl) ?_
 refine zE (hK _ ?_); clear hK K; simp only [nA, ↓reduceIte]
 refine zL rfl rfl rfl (fun hc => ?_) (fun hc => ?_)
 ·
  have hc5 := hc; have g5 : bestV l f p = none := (by cases hb : bestV l f p with | none => rfl | some i => rw [hb] at hc5; exact absurd (of_decide_eq_true hc5) (by show ¬ ((i : Nat) : Int) < 0; omega))
  refine zA fun K hK => zB ?_
  refine zF (zD rfl rfl) ?_
  refine zF (zD rfl rfl) ?_
  refine zE (hK _ ?_); clear hK K; try simp only [nA, Nat.reduceBEq, Nat.reduceEqDiff, ↓reduceIte, Nat.reduceAdd, Nat.reduceSub]
  skip
  refine zO ?_; (try simp only [zJ, zK, Nat.reduceEqDiff, ↓reduceIte]); rw [show choV l f p = (0, 8) by unfold choV; rw [if_neg (by simp [g1]), if_neg (by simp [g2]), if_neg (by simp [g3]), if_neg (by simp [g4]), g5]]; exact zS rfl (.tmp (bl rfl) rfl rfl (.tmp (bl rfl) rfl rfl .nil))
 have hc5 := hc; obtain ⟨i, hbi⟩ : ∃ i, bestV l f p = some i := (by cases hb : bestV l f p with | some i => exact ⟨i, rfl⟩ | none => rw [hb] at hc5; exact absurd (of_decide_eq_false hc5) (by show ¬ ¬ (-1 : Int) < 0; decide)); obtain ⟨hil, _, _⟩ := bestV_some hbi; rw [hbi]
 refine zN ?_
 (try simp only [zJ, zK, Nat.reduceEqDiff, ↓reduceIte])
 refine hK _ ?_; clear hK K
 refine zA fun K hK => zB ?_
 refine zF (zC rfl rfl) ?_
 refine zF (zC rfl rfl) ?_
 refine zF (zX i rfl (.inl rfl) rfl Tryz.underlying42 rfl (yO hil) (by exact yH) (bl rfl)) ?_
 refine zF (yK rfl rfl fl33_0 (by exact sz3) (by decide) (bl rfl) rfl) ?_
 refine awR (z6 rfl rfl ag3) ?_
 refine zF (zD rfl rfl) ?_
 refine zF (zD rfl rfl) ?_
 refine zE (hK _ ?_); clear hK K; simp only [nA, ↓reduceIte]
 skip
 refine zO ?_; (try simp only [zJ, zK, Nat.reduceEqDiff, ↓reduceIte]); rw [show choV l f p = ((l.getD i default).number, 0) by unfold choV; rw [if_neg (by simp [g1]), if_neg (by simp [g2]), if_neg (by simp [g3]), if_neg (by simp [g4]), hbi]]; exact zS rfl (.tmp (bl rfl) rfl rfl (.tmp (bl rfl) rfl rfl .nil))
theorem C19 {l : List Container} {f : Flight} (hs : Sml l) : Fn Tryz.prog 19 [] [.ro (l.map Container.av), .agg f.av] [.v (.int .i64 (momV l f))] [] := by
 refine Spec.body Tryz.func19 rfl Tryz.ntmps19 (by simp) rfl ?_; intro S0 own0 v0 w0
 refine zA fun K hK => zB ?_
 refine yB (yL rfl rfl rfl sz25 rfl) ?_; simp only [nA, Nat.reduceBEq, Nat.reduceEqDiff, ↓reduceIte]
 refine zF (zD rfl rfl) ?_
 refine zE (hK _ ?_); clear hK K; try simp only [nA, Nat.reduceBEq, Nat.reduceEqDiff, ↓reduceIte, Nat.reduceAdd, Nat.reduceSub]
 refine zA fun K hK => ?_
 refine zA fun K hK => zB ?_
 refine zF (zC rfl rfl) ?_
 refine yB (OpQ.j (zT (b := true) rfl en37 (C37 (xs := l) hs.len) (RL.cons (by exact View.same rfl) (RL.nil)) rfl)) ?_; simp only [nA, ↓reduceIte]
 refine zF (op_neq rfl rfl rfl) ?_
 refine zE (hK _ ?_); clear hK K; try simp only [nA, Nat.reduceBEq, Nat.reduceEqDiff, ↓reduceIte, Nat.reduceAdd, Nat.reduceSub]
 refine zL rfl rfl rfl (fun hc => ?_) (fun hc => ?_)
 ·
  have hc1 := hc
  refine zA fun K hK => zB ?_
  refine zF (zD rfl rfl) ?_
  refine zE (hK _ ?_); clear hK K; try simp only [nA, Nat.reduceBEq, Nat.reduceEqDiff, ↓reduceIte, Nat.reduceAdd, Nat.reduceSub]
  skip
  refine zO ?_; (try simp only [zJ, zK, Nat.reduceEqDiff, ↓reduceIte]); rw [show momV l f = 0 by unfold momV; rw [if_pos (by simpa using hc1)]]; exact zS rfl (.tmp (bl rfl) rfl rfl .nil)
 have hc1 := hc; have g1 : chkL l = 0 := (by simpa using hc1)
 refine zN ?_
 refine hK _ ?_; clear hK K
 refine zA fun K hK => zB ?_
 refine zF (zC rfl rfl) ?_
 refine awR (zI rfl rfl rfl rfl ag25 sz25 (bl rfl) rfl) ?_
 refine yB (OpQ.j (zT (b := true) rfl en38 (C38 (l := l) (f := f) (InvO.of g1).fit) (RL.cons (by exact View.same rfl) (RL.cons (by exact View.same rfl) (RL.nil))) rfl)) ?_; simp only [nA, ↓reduceIte]
 refine zF (zD rfl rfl) ?_
 refine zE (hK _ ?_); clear hK K; simp only [nA]
 skip
 refine zO ?_; (try simp only [zJ, zK, Nat.reduceEqDiff, ↓reduceIte]); rw [show momV l f = mom l f by unfold momV; rw [if_neg (by simp [g1])]]; exact zS rfl (.tmp (bl rfl) rfl rfl .nil)
set_option maxRecDepth 100000
theorem getD_memC {l : List Container} {i : Nat} (h : i < l.length) : l.getD i default ∈ l := by rw [getD_c h]; exact List.getElem_mem h
theorem av_flatP (l : List Piece) : ∀ r ∈ l.map Piece.av, ∀ c ∈ r, flatA c = true := fun r hr c hc => by
 obtain ⟨x, _, rfl⟩ := List.mem_map.1 hr
 simp only [Piece.av, List.mem_cons, List.not_mem_nil, or_false] at hc
 rcases hc with rfl | rfl | rfl | rfl | rfl <;> rfl
theorem conv_lenC (l : List Container) : ∀ x ∈ l.map Container.av, x.length = 11 := fun x hx => by obtain ⟨g, _, rfl⟩ := List.mem_map.1 hx; rfl
theorem C50 {l : List Container} (hl : l.length ≤ 1000000) (hp : ∀ c ∈ l, c.pieces.length ≤ 1000000) : Fn Tryz.prog 50 [] [.ro (l.map Container.av)] [.own 33 (l.map Container.av)] [] := by
 refine Spec.body Tryz.func50 rfl Tryz.ntmps50 (by simp) rfl ?_; intro S0 own0 v0 w0
 refine zA fun K hK => zB ?_
 refine zF (zD rfl rfl) ?_
 refine zE (hK _ ?_); clear hK K; try simp only [nA, Nat.reduceBEq, Nat.reduceEqDiff, ↓reduceIte, Nat.reduceAdd, Nat.reduceSub]
 refine zA fun K hK => zB ?_
 refine zF (zC rfl rfl) ?_
 refine yB (op_app_nil (rows := l.map Container.av) rfl rfl rfl .ro Tryz.underlying42 ze33 (by decide) (conv_lenC _) (by simp; omega) (by decide) (n := l.length) (by simp)) ?_; simp only [nA, Nat.reduceBEq, Nat.reduceEqDiff, ↓reduceIte]
 refine zF (zD rfl rfl) ?_
 refine zE (hK _ ?_); clear hK K; simp only [nA]
 refine zA fun K hK => ?_
 refine zA fun K hK => zB ?_
 refine zF (zC rfl rfl) ?_
 refine zF (op_len_sl rfl rfl rfl Tryz.underlying42) ?_
 refine zF (zC rfl rfl) ?_
 refine zE (hK _ ?_); clear hK K; simp only [nA]
 refine zP ?_
 refine yG (fun (i : Nat) => [(3, .sl 0 1 0 l.length), (7, .sl 0 1 0 l.length), (8, .v (.int .i64 (l.length : Nat))), (9, .v (.int .i64 (i : Nat)))]) (fun _ => ⟨[(1, .own 33 (l.map Container.av))], _⟩) (fun i => i ≤ l.length) (fun i => l.length - i) 0 (by simp) ⟨rfl, rfl, rfl, rfl, trivial⟩ rfl ?_; intro i ρ hi; simp only [updL]
 refine zA fun K hK => zB ?_
 refine zF (op_lss rfl rfl rfl) ?_
 refine zE (hK _ ?_); clear hK K; try simp only [nA, Nat.reduceBEq, Nat.reduceEqDiff, ↓reduceIte, Nat.reduceAdd, Nat.reduceSub]
 refine zA fun K hK => ?_
 refine zL rfl rfl rfl (fun hc => ?_) (fun hc => ?_)
 ·
  have hc1 := hc; have hlt : i < l.length := (by simpa using hc1); have hpl := hp _ (getD_memC hlt)
  refine zN ?_
  refine hK _ ?_; clear hK K
  refine zA fun K hK => zP ?_
  refine zA fun K hK => zB ?_
  refine zF (zC rfl rfl) ?_
  refine zF (zD rfl rfl) ?_
  refine zE (hK _ ?_); clear hK K; simp only [nA, ↓reduceIte]
  refine zB ?_
  refine zF (zC rfl rfl) ?_
  refine zF (zC rfl rfl) ?_
  refine zF (zC rfl rfl) ?_
  refine zF (zC rfl rfl) ?_
  refine zF (op_ia_sl i 11 rfl rfl rfl rfl Tryz.underlying42 rfl hlt (by exact yH) (Nat.zero_add _)) ?_
  refine zF (zH rfl rfl rfl fl33_7 (by exact sz31) (by decide) rfl) ?_
  refine awR (zG (row := ((l.getD i default)).av) rfl rfl rfl (yO hlt) ag31 rfl rfl) ?_
  refine yB (OpJ.frz (op_app_nil (rows := (((l.getD i default)).pieces.map Piece.av)) rfl rfl rfl .ro Tryz.underlying31 ze35 (by decide) (av_len _) (by simp only [List.length_map]; omega) (by decide) (n := ((l.getD i default)).pieces.length) (by simp)) (av_flatP _) (by simp)) ?_; simp only [nA, ↓reduceIte]
  refine zF (op_ia_sl i 11 rfl rfl rfl rfl Tryz.underlying42 rfl hlt (by exact yH) (Nat.zero_add _)) ?_
  refine zF (zH rfl rfl rfl fl33_7 (by exact sz31) (by decide) rfl) ?_
  refine yB (z8 rfl rfl rfl rfl (yO hlt) rfl sz31 rfl (bl rfl) (es' := l.map Container.av) (set_same (yO hlt))) ?_; try simp only [nA, Nat.reduceBEq, Nat.reduceEqDiff, ↓reduceIte, Nat.reduceAdd, Nat.reduceSub]
  refine zE ?_
  (try simp only [zJ, zK, Nat.reduceEqDiff, ↓reduceIte])
  refine hK _ ?_; clear hK K
  refine zB ?_
  refine zF (zR rfl rfl rfl (by omega)) ?_
  refine zF (zC rfl rfl) ?_
  skip
  refine zE ?_
  refine ⟨i + 1, by omega, by omega, ⟨rfl, rfl, rfl, rfl, trivial⟩, (by rfl), (by rfl)⟩
 have hc1 := hc
 refine yI ?_; try simp only [zJ, zK, Nat.reduceEqDiff, ↓reduceIte]
 clear hK K
 refine hK _ ?_; clear hK K
 refine zA fun K hK => zB ?_
 refine zF (zC rfl rfl) ?_
 refine zF (zD rfl rfl) ?_
 refine zE (hK _ ?_); clear hK K; simp only [nA, ↓reduceIte]
 skip
 refine zO ?_; (try simp only [zJ, zK, Nat.reduceEqDiff, ↓reduceIte]); exact zS rfl (.own (bl rfl) rfl rfl (by simp) (by simp) .nil)
section
variable {C : Cx} {o : Oper} {ev : Operand → AV} {T : Sl}
theorem RL.take {α β : Type} {R : α → β → Prop} {us : List α} {xs : List β} (h : RL R us xs) (n : Nat) : RL R (us.take n) (xs.take n) := by
 refine ⟨by rw [List.length_take, List.length_take, h.1], fun i u x hu hx => ?_⟩
 rw [List.getElem?_take] at hu hx
 split at hu
 · rename_i hi
   rw [if_pos hi] at hx
   exact h.2 i u x hu hx
 cases hu
end
set_option maxRecDepth 100000
abbrev Z0 : Piece := ⟨⟨0, 0, 0⟩, 0, 0⟩
def ordT (l : List Piece) (i : Nat) : List Piece := (l.take i).foldl insB []
/-- The list behind the copy: everything from k on lies one place further. -/
def cpL (out : List Piece) (k : Nat) : List Piece := out.take k ++ (out ++ [Z0]).getD k default :: out.drop k
section
variable {C : Cx} {o : Oper} {ev : Operand → AV} {T : Sl}
/-- A row of one's own may be read where its block may be. -/
theorem Rep.own_ro {P : Program} {S : Nat → Prop} {w : World} {bs : List Nat} {u : Value} {e : TypeId} {es : List (List AV)} (h : Rep P S w bs u (.own e es)) (hf : ∀ r ∈ es, ∀ c ∈ r, flatA c = true) : Rep P (fun k => S k ∨ k ∈ bs) w [] u (.ro es) := by
 obtain ⟨us, sz, bss, hbs, hi, hsz, hown, hul, hbl, hc⟩ := h.own_inv
 rcases hown.2 with ⟨rfl, h0⟩ | ⟨g, cap, cur, rfl, -, hg, h1, h2, h3, h4⟩
 · obtain rfl := List.eq_nil_of_length_eq_zero h0
   exact rep_ro_nil
 refine Rep.ro (us := us) h1 h2 hsz (fun hn => ⟨g, 0, rfl, .inr (by rw [hbs]; simp [Value.ownBlock]), fun j u hu => ?_⟩) hul fun i u x q1 q2 => ?_
 · rw [Nat.zero_add]
   simp only [World.cell?, hg]
   have hj : j < es.length * sz := by rw [← hown.1]; exact (List.getElem?_eq_some_iff.1 hu).1
   have : cur.toList[j]? = some u := by rw [← hu, ← h4, List.getElem?_take_of_lt hj]
   simpa using this
 have hi' := (List.getElem?_eq_some_iff.1 q1).1
 have h5 := hc i u x (bss[i]'(by omega)) q1 q2 (List.getElem?_eq_getElem _)
 have hx : flatA x = true := by
   obtain ⟨r, hr, hcr⟩ := List.mem_flatten.1 (List.mem_of_getElem? q2)
   exact hf r hr x hcr
 have h6 := h5.flat hx
 rw [h6] at h5
 exact h5.mono fun _ _ h => .inl h
/-- A box that holds a named slice's address: what it is while the slice is lent for reading. -/
theorem rop_up {S : Nat → Prop} {vals : List Value} {bss : List (List Nat)} {w : World} (hm : Mem C T S vals bss w) {r k : Nat} {u : Value} {e : TypeId} {es : List (List AV)} (hT : T.slots[r]? = some (k, .nm u e es)) (hf : ∀ r ∈ es, ∀ c ∈ r, flatA c = true)
   {p : Value} (h : Rep C.P S w [] p (.rop [.v u])) : Rep C.P (lent true S bss) w [] p (.rop [.ro es]) := by
 obtain ⟨v, bs, hv, hb, hrep⟩ := hm.slot hT
 have hnm : v = u ∧ Rep C.P S w bs u (.own e es) := by
   cases hrep with
   | nm h => exact ⟨rfl, h⟩
 have hr := (hnm.2.own_ro hf).mono (S' := lent true S bss) fun q _ h => h.elim .inl fun h => .inr ⟨rfl, r, bs, hb, h⟩
 generalize hcs : [AV.v u] = cs at h
 generalize hbs : ([] : List Nat) = bs0 at h
 cases h with
 | @rop A us _ hr0 hl hc =>
   subst hcs
   obtain ⟨u1, rfl⟩ : ∃ u1, us = [u1] := by
     match us, hl with
     | [u1], _ => exact ⟨u1, rfl⟩
   have h1 := (hc 0 u1 (.v u) rfl rfl).v_inv.1
   subst h1
   refine Rep.rop (us := [u1]) (hr0.mono fun _ _ h => .inl h) rfl fun i x y q1 q2 => ?_
   cases i with
   | zero => simp at q1 q2; subst q1; subst q2; exact hr
   | succ i => simp at q1
/-- A closure that captures a box with a named slice's address, called to read. -/
theorem op_lessQ {f : FuncId} {p : Operand} {args : Array Operand} {ts : Array TypeId} {xs : List AV} {y : Value} {r k : Nat} {u : Value} {e : TypeId} {es : List (List AV)} (ho : o.op = .call { callee := .value p, args := args, argTypes := ts }) (hp : ev p = .clo f [.rop [.v u]])
   (hT : T.slots[r]? = some (k, .nm u e es)) (hfl : ∀ r ∈ es, ∀ c ∈ r, flatA c = true) (hf : zW C.P f) (hsp : Fn C.P f [] (xs ++ [.rop [.ro es]]) [.v y] []) (hv : RL (View T true) (args.toList.map ev) xs) (hx : y.oneCell' = true) : OpQ C o ev T (.v y) := by
 intro a w S vals bss hm h
 refine ⟨y, fun w' hk => ?_, TmpOK.v_ hx⟩
 have hp1 := h p (by simp [ho, Op.operands, Call.operands])
 rw [hp] at hp1
 obtain ⟨us, hfv, hul, hur⟩ := (show Rep C.P S w [] _ (.clo f [.rop [.v u]]) from hp1).clo_inv
 have hargs : ∀ y ∈ args, TmpOK C.P S w' T vals (a.eval y) (ev y) := fun y hy => TmpOK.follows (Follows.kept hk (fun _ _ _ => trivial) fun _ h => h) (h y (by simp [ho, Op.operands, Call.operands]; exact .inr hy))
 have hcame := came0 (hm.grow hk) hv hargs
 have hcaps : RL (AggOK C.P (lent true S bss) w' (insT []) []) us [.rop [.ro es]] := ⟨hul, fun i u1 x h1 h2 => by
   cases i with
   | zero =>
     simp at h2
     subst h2
     exact (rop_up (hm.grow hk) hT hfl ((hur 0 u1 (.rop [.v u]) h1 rfl).kept hk (fun _ _ _ => trivial) (by simp))).aggOK
   | succ i => simp at h2⟩
 have hc := hsp w' (lent true S bss) [] [] (args.toList.map a.eval ++ us) { hcame with args := hcame.args.append hcaps }
 have hrun : (execOp a.eval o).run C.P w' = .ok (.enter f (args.toList.map a.eval ++ us).toArray) w' := by
   have e1 : (args.map a.eval ++ us.toArray) = (args.toList.map a.eval ++ us).toArray := by apply Array.toList_inj.1; simp
   simp only [execOp, ho, resolve, hfv, Deferred.ofValue, Sem.run_bind, Sem.run_pure, Result.andThen_ok, invoke]
   rw [← e1]
   simpa using hf _ w'
 unfold Oper.quietAt
 rw [hrun]
 refine ⟨rfl, hc.mono ?_⟩
 rintro e w'' ⟨us, ys', outs, bsr, bss', rfl, went, rfl, rfl⟩
 have hk2 : Kept (fun _ => True) w' w'' := went.kept.mono fun k _ _ ⟨r, bs, h, _⟩ => by simp at h
 refine ⟨?_, hk.trans hk2⟩
 match us, went.nu with
 | [u], _ =>
   have hr := went.res 0 u (.v y) (bsr[0]'(by rw [went.nr]; simp)) rfl rfl (List.getElem?_eq_getElem _)
   rcases hr with h | ⟨_, h⟩
   · rw [retV, h.v_inv.1]
   rw [retV, (show Rep C.P _ w'' [] u (.v y) from h).v_inv.1]
end
section
variable {C : Cx} {T : Sl} {S : Nat → Prop} {vals : List Value} {bss : List (List Nat)} {w : World}
variable {o : Oper} {ev : Operand → AV}
/-- A call to which a named slot is lent for writing. -/
theorem op_callN {f : FuncId} {args : Array Operand} {ts : Array TypeId} {r k : Nat} {x0 x1 : AV} {xs ys : List AV} (ho : o.op = .call { callee := .value (.func f), args := args, argTypes := ts }) (hf : zW C.P f) (hsp : Fn C.P f [x0] xs ys [x1]) (hs : T.slots[r]? = some (k, x0)) (hv : RL (View1 T r k) (args.toList.map ev) xs)
   (hx1 : ∃ u0 e es es', x0 = .nm u0 e es ∧ x1 = .nm u0 e es') (hn : ys.all (cloA 1) = true) {x : AV} {T' : Sl} (hx : packR (unp (ys.map (renA r k)) ⟨T.slots.set r (k, x1), T.ep⟩).1 = x) (hT : (unp (ys.map (renA r k)) ⟨T.slots.set r (k, x1), T.ep⟩).2 = T') : OpJ C o ev T x T' := by
 intro a w S vals bss hm h K hK Q
 have hrl : r < T.slots.length := (List.getElem?_eq_some_iff.1 hs).1
 have hargs : ∀ y ∈ args, TmpOK C.P S w T vals (a.eval y) (ev y) := fun y hy => h y (by simp [ho, Op.operands, Call.operands]; exact .inr hy)
 obtain ⟨v, bs, hvr, hbr, hrep⟩ := hm.slot hs
 have hcame : Came C.P [x0] xs w S [v] [bs] (args.toList.map a.eval) := by
   refine ⟨hm.lt, rfl, rfl, fun q x u b h1 h2 h3 => ?_, ⟨fun q b h1 => ?_, fun q q' b b' hne h1 h2 => ?_⟩, fun b ⟨q, b1, h1, h2⟩ => ?_, by have := hv.1; simpa using this, fun i u x h1 h2 => ?_⟩
   · cases q with
     | zero => simp at h1 h2 h3; subst h1; subst h2; subst h3; exact hrep
     | succ q => simp at h1
   · cases q with
     | zero => simp at h1; subst h1; exact hm.nodup r _ hbr
     | succ q => simp at h1
   · cases q with
     | zero => cases q' with
       | zero => exact absurd rfl hne
       | succ q' => simp at h2
     | succ q => simp at h1
   · cases q with
     | zero => simp at h1; subst h1; exact hm.apart r _ hbr b h2
     | succ q => simp at h1
   rw [List.getElem?_map] at h1
   cases hq : args.toList[i]? with
   | none => rw [hq] at h1; cases h1
   | some y =>
     rw [hq] at h1
     simp only [Option.map_some, Option.some.injEq] at h1
     subst h1
     exact view1_ok hm hs hvr (hv.2 i (ev y) x (by rw [List.getElem?_map, hq]; rfl) h2) (hargs y (Array.mem_toList_iff.1 (List.mem_of_getElem? hq)))
 have hc := hsp w S [v] [bs] _ hcame
 have hrun : (execOp a.eval o).run C.P w = .ok (.enter f (args.toList.map a.eval).toArray) w := by
   have e1 : (args.map a.eval) = (args.toList.map a.eval).toArray := by apply Array.toList_inj.1; simp
   simp only [execOp, ho, resolve, Act.eval, Deferred.ofValue, Sem.run_bind, Sem.run_pure, Result.andThen_ok, invoke]
   rw [← e1]
   simpa using hf _ w
 unfold Oper.wp
 rw [hrun, Oper.upon_enter]
 refine hc.mono ?_
 rintro e w' ⟨us, ys', outs, bsr, bss', rfl, went, rfl, rfl⟩
 simp only
 obtain ⟨bs', rfl⟩ : ∃ b, bss' = [b] := by
   match bss', went.nb with
   | [b], _ => exact ⟨b, rfl⟩
 have hin1 : ∀ (b : List Nat) (q : Nat), InL [b] q ↔ q ∈ b := fun b q => by
   constructor
   · rintro ⟨i, b1, h1, h2⟩
     cases i with
     | zero => simp at h1; subst h1; exact h2
     | succ i => simp at h1
   intro h; exact ⟨0, b, rfl, h⟩
 have hk : Kept (fun q => q ∉ bs) w w' := went.kept.mono fun q _ h h' => h ((hin1 _ _).1 h')
 have hinR : ∀ q, InL bsr q → InL (bsr ++ [bs']) q := fun q ⟨i, b, h1, h2⟩ => ⟨i, b, by rw [List.getElem?_append_left (List.getElem?_eq_some_iff.1 h1).1]; exact h1, h2⟩
 have hinS : ∀ q, q ∈ bs' → InL (bsr ++ [bs']) q := fun q h => ⟨bsr.length, bs', by simp, h⟩
 have hown' := went.own
 have hownR : Own2 bsr := ⟨fun i b h => hown'.nodup i b (by rw [List.getElem?_append_left (List.getElem?_eq_some_iff.1 h).1]; exact h), fun i j b b' hne h1 h2 => hown'.disj i j b b' hne (by rw [List.getElem?_append_left (List.getElem?_eq_some_iff.1 h1).1]; exact h1) (by rw [List.getElem?_append_left (List.getElem?_eq_some_iff.1 h2).1]; exact h2)⟩
 have hmine : ∀ q, InL (bsr ++ [bs']) q → w.heap.size ≤ q ∨ q ∈ bs := fun q h => (went.mine q h).imp id (hin1 _ _).1
 obtain ⟨u0, e0, es, es', rfl, rfl⟩ := hx1
 obtain ⟨hm2, hf2⟩ := hm.set2 (S2 := After S w w' [bs] (bsr ++ [bs'])) (x' := .nm u0 e0 es') (bs' := bs') hs hvr hbr hk (fun q h => .inl h) (fun q h => h.imp id fun ⟨h1, h2, h3⟩ => ⟨h1.imp id (hin1 _ _).1, h2, fun h => h3 (hinS q h)⟩)
   (went.rep 0 _ v bs' rfl rfl rfl) (hown'.nodup bsr.length bs' (by simp)) (fun q h => (hmine q (hinS q h)).symm) (fun e es2 h => by cases h) (fun b ks h => by cases h)
 have hs2 : (T.slots.set r (k, AV.nm u0 e0 es'))[r]? = some (k, .nm u0 e0 es') := by simp [hrl]
 have hcl : ∀ (i : Nat) (y : AV), ys'[i]? = some y → cloA 1 y = true := fun i y h => List.all_eq_true.1 hn y (List.mem_of_getElem? h)
 obtain ⟨vals', bss'', g1, g2, g3⟩ := unp_ok2 (ys'.map (renA r k)) us bsr _ vals _ hm2 (by simp [went.nu]) (by simp [went.nr]) (fun i u y b q1 q2 q3 => by
   rw [List.getElem?_map] at q2
   cases hq : ys'[i]? with
   | none => rw [hq] at q2; cases q2
   | some y0 =>
     rw [hq] at q2
     simp only [Option.map_some, Option.some.injEq] at q2
     subst q2
     rcases went.res i u y0 b q1 hq q3 with h | ⟨h1, h2⟩
     · exact .inl (h.ren r k)
     · exact .inr ⟨h1, renA_ok (T' := ⟨T.slots.set r (k, .nm u0 e0 es'), T.ep⟩) hs2 hvr (hm.ver r k _ hs) h2 (hcl i y0 hq)⟩) hownR (fun q hq => by
     refine ⟨fun ⟨i, b, h1, h2⟩ => ?_, fun h => ?_, ?_⟩
     · rw [getElem?_set_ _ _ _ _ (by rw [hm.nb]; exact hrl)] at h1
       obtain ⟨j, bj, h3, h4⟩ := hq
       split at h1
       · injection h1 with h1; subst h1
         refine hown'.disj j bsr.length bj bs' ?_ (by rw [List.getElem?_append_left (List.getElem?_eq_some_iff.1 h3).1]; exact h3) (by simp) q h4 h2
         have := (List.getElem?_eq_some_iff.1 h3).1; omega
       rename_i hne
       rcases hmine q (hinR q ⟨j, bj, h3, h4⟩) with h | h
       · have := hm.blt h1 q h2; omega
       exact hm.disj r i bs b hne hbr h1 q h h2
     · rcases h with h | ⟨_, _, h⟩
       · rcases hmine q (hinR q hq) with h' | h'
         · have := hm.lt q h; omega
         exact hm.apart r bs hbr q h' h
       exact h (hinR q hq)
     rcases hmine q (hinR q hq) with h | h
     · have := hm.kept.size; exact .inr (by omega)
     exact hm.mine r bs hbr q h)
 subst hT
 refine hK _ _ _ _ _ g1 (fun u x h => g2 u x (hf2 u x h)) ?_
 subst hx
 match us, hz : (unp (ys'.map (renA r k)) ⟨T.slots.set r (k, .nm u0 e0 es'), T.ep⟩).1, g3 with
 | [], zs, rl =>
   have : zs = [] := List.eq_nil_of_length_eq_zero rl.1.symm
   subst this
   exact ⟨#[], rfl, RL.nil⟩
 | [u], zs, rl =>
   obtain ⟨z, rfl⟩ : ∃ z, zs = [z] := by
     match zs, rl.1 with
     | [z], _ => exact ⟨z, rfl⟩
   have := rl.2 0 u z rfl rfl
   cases z with
   | tup cs => exact absurd rfl (Rep.plain (show Rep _ _ _ _ _ (.tup cs) from this) cs).2
   | _ => exact this
 | u :: u2 :: us, zs, rl =>
   obtain ⟨z1, z2, zs', rfl⟩ : ∃ z1 z2 zs', zs = z1 :: z2 :: zs' := by
     match zs, rl.1 with
     | z1 :: z2 :: zs', _ => exact ⟨z1, z2, zs', rfl⟩
   exact ⟨_, rfl, by simpa using rl⟩
end
section
variable {C : Cx} {T : Sl} {S : Nat → Prop} {vals : List Value} {bss : List (List Nat)} {w : World} {o : Oper} {ev : Operand → AV}
/-- A call, its arguments having come in whatever way. -/
theorem op_callC {f : FuncId} {args : Array Operand} {ts : Array TypeId} {b : Bool} {xs ys : List AV} (ho : o.op = .call { callee := .value (.func f), args := args, argTypes := ts }) (hf : zW C.P f) (hsp : Fn C.P f [] xs ys []) (hv : ∀ (a : Act) w S vals bss, Mem C T S vals bss w → (∀ y ∈ args, TmpOK C.P S w T vals (a.eval y) (ev y)) → Came C.P [] xs w (lent b S bss) [] [] (args.toList.map a.eval))
   (hn : ys.all nrefA = true) (hsol : b = true → ∀ y ∈ ys, SolidA C.P y) {x : AV} {T' : Sl} (hx : packR (unp ys T).1 = x) (hT : (unp ys T).2 = T') : OpJ C o ev T x T' := by
 intro a w S vals bss hm h K hK Q
 have hargs : ∀ y ∈ args, TmpOK C.P S w T vals (a.eval y) (ev y) := fun y hy => h y (by simp [ho, Op.operands, Call.operands]; exact .inr hy)
 have hc := hsp w (lent b S bss) [] [] _ (hv a w S vals bss hm hargs)
 have hrun : (execOp a.eval o).run C.P w = .ok (.enter f (args.toList.map a.eval).toArray) w := by
   have e1 : (args.map a.eval) = (args.toList.map a.eval).toArray := by apply Array.toList_inj.1; simp
   simp only [execOp, ho, resolve, Act.eval, Deferred.ofValue, Sem.run_bind, Sem.run_pure, Result.andThen_ok, invoke]
   rw [← e1]
   simpa using hf _ w
 unfold Oper.wp
 rw [hrun, Oper.upon_enter]
 refine hc.mono ?_
 rintro e w' ⟨us, ys', outs, bsr, bss', rfl, went, rfl, rfl⟩
 simp only
 have hb0 : bss' = [] := List.eq_nil_of_length_eq_zero went.nb
 subst hb0
 have hk : Kept (fun _ => True) w w' := went.kept.mono fun k _ _ ⟨r, bs, h, _⟩ => by simp at h
 have hown : Own2 bsr := by have := went.own; rwa [List.append_nil] at this
 have hmine : ∀ q, InL bsr q → w.heap.size ≤ q := fun q hq => by
   have := went.mine q (by rw [List.append_nil]; exact hq)
   exact this.resolve_right fun ⟨r, bs, h, _⟩ => by simp at h
 have hS2 : ∀ k, S k → S k ∨ (w.heap.size ≤ k ∧ k < w'.heap.size ∧ ¬ InL bsr k) := fun k h => .inl h
 have hm1 := (hm.grow hk).more (S' := fun k => S k ∨ (w.heap.size ≤ k ∧ k < w'.heap.size ∧ ¬ InL bsr k)) hS2 fun k h => by
   rcases h with h | ⟨h1, h2, h3⟩
   · exact .inl h
   refine .inr ⟨.inr (.inr (by have := hm.kept.size; omega)), h2, fun ⟨r, bs, q1, q2⟩ => ?_⟩
   have := hm.blt q1 k q2; omega
 have hf1 : Follows C.P S w T vals (fun k => S k ∨ (w.heap.size ≤ k ∧ k < w'.heap.size ∧ ¬ InL bsr k)) w' T vals := Follows.kept hk (fun _ _ _ => trivial) hS2
 have hAf : ∀ k, After (lent b S bss) w w' [] (bsr ++ []) k → (S k ∨ (w.heap.size ≤ k ∧ k < w'.heap.size ∧ ¬ InL bsr k)) ∨ (b = true ∧ InL bss k) := fun k h => by
   rcases h with h | ⟨h1, h2, h3⟩
   · rcases h with h | h
     · exact .inl (.inl h)
     exact .inr h
   rcases h1 with h1 | ⟨r, bs, h, _⟩
   · rw [List.append_nil] at h3; exact .inl (.inr ⟨h1, h2, h3⟩)
   simp at h
 obtain ⟨vals', bss'', g1, g2, g3⟩ := unp_ok ys' us bsr T vals bss hm1 went.nu went.nr (fun i u y bs q1 q2 q3 => by
   have hny : nrefA y = true := List.all_eq_true.1 hn y (List.mem_of_getElem? q2)
   cases b with
   | false =>
     have hA : ∀ k, After (lent false S bss) w w' [] (bsr ++ []) k → S k ∨ (w.heap.size ≤ k ∧ k < w'.heap.size ∧ ¬ InL bsr k) := fun k h => (hAf k h).resolve_right (by simp)
     rcases went.res i u y bs q1 q2 q3 with h | ⟨h1, h2⟩
     · exact .inl (h.mono fun k _ => hA k)
     exact .inr ⟨h1, hny, T, vals, h2.nref hny hA⟩
   | true =>
     have hs := hsol rfl y (List.mem_of_getElem? q2)
     rcases went.res i u y bs q1 q2 q3 with h | ⟨h1, h2⟩
     · left
       cases y with
       | agg cs => exact absurd rfl (h.plain cs).1
       | _ => exact hs _ _ _ _ _ h
     · refine .inr ⟨h1, hny, T, vals, ?_⟩
       cases y with
       | any => trivial
       | agg cs =>
         obtain ⟨us', e, r⟩ := h2
         simp only [nrefA, List.all_eq_true] at hny
         refine ⟨us', e, r.1, fun i u x hu hx => ?_⟩
         have h3 := r.2 i u x hu hx
         have h4 := hny x (List.mem_of_getElem? hx)
         have h5 := hs x (List.mem_of_getElem? hx)
         cases x with
         | sl => cases h4
         | ptr => cases h4
         | mp => cases h4
         | nm => exact h3
         | byt => exact h3
         | om => exact h3
         | _ => exact h5 _ _ _ _ _ h3
       | sl => cases hny
       | ptr => cases hny
       | mp => cases hny
       | tup => cases hny
       | nm => exact h2
       | byt => exact h2
       | om => exact h2
       | _ => simp only [AggOK] at h2 ⊢; exact hs _ _ _ _ _ h2) hown (fun q hq => by
     have hge := hmine q hq
     refine ⟨fun ⟨r, bs, q1, q2⟩ => by have := hm.blt q1 q q2; omega, fun h => ?_, .inr (by have := hm.kept.size; omega)⟩
     rcases h with h | h
     · have := hm.lt q h; omega
     exact h.2.2 hq)
 subst hT
 refine hK _ _ _ _ _ g1 (fun u x h => g2 u x (hf1 u x h)) ?_
 subst hx
 match us, hz : (unp ys' T).1, g3 with
 | [], zs, r =>
   have : zs = [] := List.eq_nil_of_length_eq_zero r.1.symm
   subst this
   exact ⟨#[], rfl, RL.nil⟩
 | [u], zs, r =>
   obtain ⟨z, rfl⟩ : ∃ z, zs = [z] := by
     match zs, r.1 with
     | [z], _ => exact ⟨z, rfl⟩
   exact (r.2 0 u z rfl rfl).tmp
 | u :: u2 :: us, zs, r =>
   obtain ⟨z1, z2, zs', rfl⟩ : ∃ z1 z2 zs', zs = z1 :: z2 :: zs' := by
     match zs, r.1 with
     | z1 :: z2 :: zs', _ => exact ⟨z1, z2, zs', rfl⟩
   exact ⟨_, rfl, by simpa using r⟩
/-- What an argument is seen as while a named slice is lent for reading. -/
inductive ViewN (T : Sl) (r k : Nat) (u : Value) (e : TypeId) (es : List (List AV)) : AV → AV → Prop
 | base {y x} (h : View T true y x) : ViewN T r k u e es y x
 | up {f : FuncId} {c : AV} (hc : nref1 c = true) : ViewN T r k u e es (.agg [.clo f [.rop [.v u]], c]) (.agg [.clo f [.rop [.ro es]], c])
theorem viewN_ok (hm : Mem C T S vals bss w) {r k : Nat} {u : Value} {e : TypeId} {es : List (List AV)} (hT : T.slots[r]? = some (k, .nm u e es)) (hf : ∀ r ∈ es, ∀ c ∈ r, flatA c = true) {y x : AV} (h : ViewN T r k u e es y x) {v : Value} (hv : TmpOK C.P S w T vals v y) : AggOK C.P (lent true S bss) w (insT []) [] v x := by
 cases h with
 | base h => exact view_ok hm h hv
 | @up f c hc =>
   obtain ⟨us, rfl, rl⟩ := (show ∃ us, v = .agg us ∧ RL (RefOK C.P S w T vals) us.toList [.clo f [.rop [.v u]], c] from hv)
   refine ⟨us, rfl, rl.1, fun i z q h1 h2 => ?_⟩
   match i, h2 with
   | 0, h2 =>
     injection h2 with h2
     subst h2
     obtain ⟨cu, rfl, g1, g2⟩ := (show Rep C.P S w [] z (.clo f [.rop [.v u]]) from rl.2 0 z _ h1 rfl).clo_inv
     refine Rep.clo (us := cu) g1 fun j z1 q1 h3 h4 => ?_
     match j, h4 with
     | 0, h4 =>
       injection h4 with h4
       subst h4
       exact rop_up hm hT hf (g2 0 z1 _ h3 rfl)
   | 1, h2 =>
     injection h2 with h2
     subst h2
     exact (rl.2 1 z _ h1 rfl).nref hc fun k h => .inl h
theorem cameN (hm : Mem C T S vals bss w) {r k : Nat} {u : Value} {e : TypeId} {es : List (List AV)} (hT : T.slots[r]? = some (k, .nm u e es)) (hf : ∀ r ∈ es, ∀ c ∈ r, flatA c = true) {args : Array Operand} {a : Act} {xs : List AV} (hv : RL (ViewN T r k u e es) (args.toList.map ev) xs) (ho : ∀ y ∈ args, TmpOK C.P S w T vals (a.eval y) (ev y)) : Came C.P [] xs w (lent true S bss) [] [] (args.toList.map a.eval) := by
 refine ⟨fun k h => ?_, rfl, rfl, by simp, ⟨by simp, by simp⟩, fun b ⟨r, bs, h, _⟩ => by simp at h, by have := hv.1; simpa using this, fun i u x h1 h2 => ?_⟩
 · rcases h with h | ⟨_, r, bs, h1, h2⟩
   · exact hm.lt k h
   exact hm.blt h1 k h2
 rw [List.getElem?_map] at h1
 cases hq : args.toList[i]? with
 | none => rw [hq] at h1; cases h1
 | some y =>
   rw [hq] at h1
   simp only [Option.map_some, Option.some.injEq] at h1
   subst h1
   exact viewN_ok hm hT hf (hv.2 i (ev y) x (by rw [List.getElem?_map, hq]; rfl) h2) (ho y (Array.mem_toList_iff.1 (List.mem_of_getElem? hq)))
/-- A call to which a named slice is lent for reading. -/
theorem op_callRd {f : FuncId} {args : Array Operand} {ts : Array TypeId} {xs ys : List AV} {r k : Nat} {u : Value} {e : TypeId} {es : List (List AV)} (ho : o.op = .call { callee := .value (.func f), args := args, argTypes := ts }) (hf : zW C.P f) (hsp : Fn C.P f [] xs ys [])
   (hs : T.slots[r]? = some (k, .nm u e es)) (hfl : ∀ r ∈ es, ∀ c ∈ r, flatA c = true) (hv : RL (ViewN T r k u e es) (args.toList.map ev) xs)
   (hn : ys.all nrefA = true) (hsol : ∀ y ∈ ys, SolidA C.P y) {x : AV} {T' : Sl} (hx : packR (unp ys T).1 = x) (hT : (unp ys T).2 = T') : OpJ C o ev T x T' :=
 op_callC (b := true) ho hf hsp (fun a w S vals bss hm h => cameN hm hs hfl hv h) hn (fun _ => hsol) hx hT
end
section
open Go.Sort
variable {α : Type} {enc : α → List Value} {k : Nat}
def rowK (enc : α → List Value) (x : α) : List AV := (enc x).map .v
theorem flat_rowK (l : List α) : (l.map (rowK enc)).flatten = (l.map enc).flatten.map .v := by
 induction l with
 | nil => rfl
 | cons x l ih => simp only [List.map_cons, List.flatten_cons, List.map_append, ih]; rfl
theorem len_flatE (hk : ∀ x, (enc x).length = k) (l : List α) : (l.map enc).flatten.length = l.length * k := by
 induction l with
 | nil => simp
 | cons x l ih => rw [List.map_cons, List.flatten_cons, List.length_append, ih, hk, List.length_cons, Nat.add_mul, Nat.one_mul, Nat.add_comm]
variable [Inhabited α]
theorem get_flatE (hk : ∀ x, (enc x).length = k) : ∀ (l : List α) (t : Nat), t < l.length * k → (l.map enc).flatten[t]? = (enc (l.getD (t / k) default))[t % k]?
 | [], t, h => by simp at h
 | x :: l, t, h => by
   rw [List.map_cons, List.flatten_cons]
   have h0 : 0 < k := Nat.pos_of_ne_zero fun e => by subst e; simp at h
   by_cases ht : t < k
   · rw [List.getElem?_append_left (by rw [hk]; exact ht), Nat.div_eq_of_lt ht, Nat.mod_eq_of_lt ht]; rfl
   rw [List.getElem?_append_right (by rw [hk]; omega), hk, get_flatE hk l (t - k) (by rw [List.length_cons, Nat.add_mul, Nat.one_mul] at h; omega)]
   obtain ⟨s, rfl⟩ : ∃ s, t = s + k := ⟨t - k, by omega⟩
   rw [Nat.add_sub_cancel, Nat.add_div_right _ h0, Nat.add_mod_right]; rfl
theorem flatK_list (hk : ∀ x, (enc x).length = k) (l : List α) : (flatK enc k l.toArray).toList = (l.map enc).flatten := by
 apply List.ext_getElem?
 intro t
 by_cases ht : t < l.length * k
 · rw [get_flatE hk l t ht]
   have h0 : 0 < k := Nat.pos_of_ne_zero fun e => by subst e; simp at ht
   have h1 : t % k < k := Nat.mod_lt _ h0
   have h2 : t < (flatK enc k l.toArray).size := by simpa using ht
   have h3 := get_flatK enc k l.toArray t (by simpa using ht)
   rw [getElem!_pos _ t h2] at h3
   rw [Array.getElem?_toList, Array.getElem?_eq_getElem h2, h3, show l.toArray[t / k]! = l.getD (t / k) default by simp [List.getD_eq_getElem?_getD, Array.getElem!_eq_getD, Array.getD]; split <;> simp_all]
   rw [List.getElem?_eq_getElem (by rw [hk]; exact h1), getElem!_pos _ _ (by rw [hk]; exact h1)]
 rw [List.getElem?_eq_none (by simpa using ht), List.getElem?_eq_none (by rw [len_flatE hk]; omega)]
omit [Inhabited α] in
/-- A row of one's own of k plain cells an element: what lies there. -/
theorem repK_inv (hk : ∀ x, (enc x).length = k) {P : Program} {S : Nat → Prop} {w : World} {bs : List Nat} {u : Value} {e : TypeId} {ds : List α} (h : Rep P S w bs u (.own e (ds.map (rowK enc)))) (hi : sizeIs P e k) (hd : 0 < ds.length) :
   ∃ g cap cur, u = .slice (some ⟨g, 0, none⟩) ds.length cap ∧ w.heap[g]? = some (.cells cur e (0, 0)) ∧ ds.length ≤ cap ∧ cap ≤ maxLen ∧ cur.size = cap * k ∧ cur.toList.take (ds.length * k) = (ds.map enc).flatten ∧ bs = [g] := by
 obtain ⟨us, sz, bss, rfl, hi', hsz, hown, hul, hbl, hc⟩ := h.own_inv
 obtain rfl := sizeIs.inj hi hi'
 rw [List.length_map] at hown
 have hlf : us.length = (ds.map enc).flatten.length := by rw [hul, flat_rowK, List.length_map]
 have key : ∀ j (hj : j < us.length) (hj' : j < (ds.map enc).flatten.length), Rep P S w (bss[j]'(by rw [hbl]; exact hj)) us[j] (.v (ds.map enc).flatten[j]) := fun j hj hj' => by
   have hx : (ds.map (rowK enc)).flatten[j]? = some (.v (ds.map enc).flatten[j]) := by
     have := congrArg (fun l => l[j]?) (flat_rowK (enc := enc) ds)
     simp only [List.getElem?_map, List.getElem?_eq_getElem hj'] at this
     exact this
   exact hc j _ _ _ (List.getElem?_eq_getElem hj) hx (List.getElem?_eq_getElem _)
 rcases hown.2 with ⟨-, h0⟩ | ⟨g, cap, cur, rfl, -, hg, h1, h2, h3, h4⟩
 · omega
 have hus : us = (ds.map enc).flatten := by
   refine List.ext_getElem (by rw [hul, flat_rowK, List.length_map]) fun j h5 h6 => ?_
   exact (key j h5 h6).v_inv.1
 have hbs : bss.flatten = [] := by
   rw [List.flatten_eq_nil_iff]
   intro b hb
   obtain ⟨j, hj, rfl⟩ := List.getElem_of_mem hb
   exact (key j (by rw [← hbl]; exact hj) (by rw [← hlf, ← hbl]; exact hj)).v_inv.2.1
 exact ⟨g, cap, cur, rfl, hg, h1, h2, h3, by rw [h4, hus], by rw [hbs]; rfl⟩
omit [Inhabited α] in
theorem repK (hk : ∀ x, (enc x).length = k) {P : Program} {S : Nat → Prop} {w : World} {e : TypeId} {ds : List α} {g cap : Nat} {cur : Array Value} (h1c : ∀ x, ∀ v ∈ enc x, v.oneCell' = true) (hi : sizeIs P e k) (hg : w.heap[g]? = some (.cells cur e (0, 0))) (h1 : ds.length ≤ cap) (h2 : cap ≤ maxLen) (h3 : cur.size = cap * k) (h4 : cur.toList.take (ds.length * k) = (ds.map enc).flatten) :
   Rep P S w [g] (.slice (some ⟨g, 0, none⟩) ds.length cap) (.own e (ds.map (rowK enc))) := by
 have := Rep.own (P := P) (S := S) (w := w) (v := .slice (some ⟨g, 0, none⟩) ds.length cap) (e := e) (es := ds.map (rowK enc)) (us := (ds.map enc).flatten) (sz := k) (bss := List.replicate (ds.length * k) []) hi
   (fun x hx => by obtain ⟨p, _, rfl⟩ := List.mem_map.1 hx; rw [rowK, List.length_map, hk])
   ⟨by rw [len_flatE hk, List.length_map], .inr ⟨g, cap, cur, by rw [List.length_map], Nat.zero_le _, hg, by rw [List.length_map]; exact h1, h2, h3, by rw [List.length_map]; exact h4⟩⟩
   (by rw [flat_rowK, List.length_map]) (by rw [List.length_replicate, len_flatE hk])
   (fun i u x bs q1 q2 q3 => by
     rw [flat_rowK, List.getElem?_map, q1] at q2
     injection q2 with q2
     subst q2
     rw [List.getElem?_replicate] at q3
     split at q3
     · injection q3 with q3; subst q3
       obtain ⟨r, hr, hur⟩ := List.mem_flatten.1 (List.mem_of_getElem? q1)
       obtain ⟨z, _, rfl⟩ := List.mem_map.1 hr
       exact .v (h1c z u hur)
     cases q3)
 simpa [Value.ownBlock] using this
theorem holdsKE (hk : ∀ x, (enc x).length = k) {w : World} {g : Nat} {cur : Array Value} {e : TypeId} {ds : List α} (hb : w.heap[g]? = some (.cells cur e (0, 0))) (ht : cur.toList.take (ds.length * k) = (ds.map enc).flatten) : HoldsK enc k w g 0 ds.toArray := by
 have := holdsE (enc := id) (ss := (flatK enc k ds.toArray).toList) hb (by rw [flatK_list hk, len_flatE hk, List.map_id]; exact ht)
 simpa [HoldsK] using this
theorem heapKE {w : World} {g : Nat} {cur : Array Value} {e : TypeId} {fr : Nat × Nat} (d : Array α) (hb : w.heap[g]? = some (.cells cur e fr)) : (putRowK enc k w g 0 d).heap[g]? = some (.cells (putCells id 0 (flatK enc k d) cur) e fr) := by
 have := heapE (enc := id) (n := 0) (os := #[]) (flatK enc k d) hb
 simpa [putRowK] using this
theorem takeKE (hk : ∀ x, (enc x).length = k) (cur : Array Value) (l : List α) (h : l.length * k ≤ cur.size) : (putCells id 0 (flatK enc k l.toArray) cur).toList.take (l.length * k) = (l.map enc).flatten := by
 have := takeE (enc := id) cur (flatK enc k l.toArray).toList (by rw [flatK_list hk, len_flatE hk]; exact h)
 rw [flatK_list hk, len_flatE hk, List.map_id] at this
 rw [← this, ← flatK_list hk]
theorem keptKE {w : World} {g : Nat} (d : Array α) : Kept (fun q => q ≠ g) w (putRowK enc k w g 0 d) := by
 have := keptE (enc := id) (w := w) (g := g) (n := 0) (os := #[]) (flatK enc k d)
 simpa [putRowK] using this
end
section
open Go.Sort
variable {C : Cx} {o : Oper} {ev : Operand → AV} {T : Sl} {α : Type} [Inhabited α] {enc : α → List Value} {k : Nat}
/-- The library's swap of two rows, by a function value, in a slice that bears a name. -/
theorem op_swapN (hk : ∀ x, (enc x).length = k) (h1c : ∀ x, ∀ v ∈ enc x, v.oneCell' = true) {sf : FuncId} {p p1 p2 : Operand} {ts : Array TypeId} {r k0 : Nat} {u th : Value} {e : TypeId} {ds : List α} {i j : Nat} {ui uj : Int}
   (ho : o.op = .call { callee := .value p, args := #[p1, p2], argTypes := ts }) (hp : ev p = .clo sf [.v u, .v th]) (h1 : ev p1 = .v (.int .i64 ui)) (h2 : ev p2 = .v (.int .i64 uj)) (hT : T.slots[r]? = some (k0, .nm u e (ds.map (rowK enc)))) (hsz : sizeIs C.P e k)
   (hui : ui = i) (huj : uj = j) (hi : i < ds.length) (hj : j < ds.length) (hsw : ∀ blk n c, u = .slice (some ⟨blk, 0, none⟩) n c → SwapSwapsK C.P sf #[u, th] enc k blk 0 n)
   {T' : Sl} (hT' : (⟨T.slots.set r (k0, .nm u e ((swp ds.toArray i j).toList.map (rowK enc))), T.ep⟩ : Sl) = T') : OpJ C o ev T .any T' := by
 subst hT' hui huj
 intro a w S vals bss hm h K hK Q
 have q0 := h p (by simp [ho, Op.operands, Call.operands])
 have q1 := h p1 (by simp [ho, Op.operands, Call.operands])
 have q2 := h p2 (by simp [ho, Op.operands, Call.operands])
 rw [hp] at q0
 rw [h1] at q1
 rw [h2] at q2
 obtain ⟨us, hfv, hul, hur⟩ := (show Rep C.P S w [] _ (.clo sf [.v u, .v th]) from q0).clo_inv
 obtain ⟨a1, a2, rfl⟩ : ∃ a1 a2, us = [a1, a2] := by
   match us, hul with
   | [a1, a2], _ => exact ⟨a1, a2, rfl⟩
 have e1 := (hur 0 a1 (.v u) rfl rfl).v_inv.1
 have e2 := (hur 1 a2 (.v th) rfl rfl).v_inv.1
 subst e1 e2
 obtain ⟨v, bs, hv, hb, hrep⟩ := hm.slot hT
 have hnm : v = a1 ∧ Rep C.P S w bs a1 (.own e (ds.map (rowK enc))) := by
   cases hrep with
   | nm h => exact ⟨rfl, h⟩
 obtain ⟨rfl, hr1⟩ := hnm
 have hbn := hm.nodup r bs hb
 obtain ⟨g0, cap, cur, rfl, hg, c1, c2, c3, c4, rfl⟩ := repK_inv hk hr1 hsz (by omega)
 have hH := holdsKE hk hg c4
 have hs := hsw g0 ds.length cap rfl w ds.toArray hH (by simp) i j hi hj
 have hlk : ds.length * k ≤ cap * k := Nat.mul_le_mul_right k c1
 have hw' : (w.setCells g0 (0 + i * k) (enc ds.toArray[j]!)).setCells g0 (0 + j * k) (enc ds.toArray[i]!) = putRowK enc k w g0 0 (swp ds.toArray i j) := by
   have := putRowK_swp enc k hk w g0 0 ds.toArray i j (by simpa using hi) (by simpa using hj)
   rwa [putRowK_self enc k w g0 0 _ hH] at this
 rw [hw'] at hs
 have hrun : (execOp a.eval o).run C.P w = .ok (.value (.tuple #[])) (putRowK enc k w g0 0 (swp ds.toArray i j)) := by
   simp only [execOp, ho, resolve, hfv, Deferred.ofValue, Sem.run_bind, Sem.run_pure, Result.andThen_ok, invoke]
   have e1 : (#[p1, p2].map a.eval) = #[.int .i64 (i : Int), .int .i64 (j : Int)] := by
     simp only [List.map_toArray, List.map_cons, List.map_nil]
     rw [q1.v, q2.v]
   rw [show (#[p1, p2].map fun o => a.eval o) = (#[p1, p2].map a.eval) from rfl] at *
   simpa [e1] using hs
 unfold Oper.wp
 rw [hrun]
 have hln : (swp ds.toArray i j).toList.length = ds.length := by simp [size_swp]
 have hk' : Kept (fun q => q ∉ [g0]) w (putRowK enc k w g0 0 (swp ds.toArray i j)) := (keptKE _).mono fun q _ h => by simpa using h
 have hr2 : Rep C.P S (putRowK enc k w g0 0 (swp ds.toArray i j)) [g0] (.slice (some ⟨g0, 0, none⟩) ds.length cap) (.own e ((swp ds.toArray i j).toList.map (rowK enc))) := by
   have ht := takeKE hk cur (swp ds.toArray i j).toList (by rw [hln, c3]; exact hlk)
   have := repK (P := C.P) (S := S) (e := e) (ds := (swp ds.toArray i j).toList) hk h1c hsz (heapKE (swp ds.toArray i j).toList.toArray hg) (by rw [hln]; exact c1) c2 (by simp [putCells, c3]) ht
   rw [hln] at this
   exact this
 obtain ⟨hm1, hf1⟩ := hm.set (k' := k0) (ep' := T.ep) hT hv hb hk' (.nm hr2) hbn (fun b h => .inl h) (.inl ⟨rfl, rfl, rfl, (fun e es h => by cases h), fun b ks h => by cases h⟩)
 exact hK _ _ _ _ _ hm1 hf1 TmpOK.any_
end
set_option maxRecDepth 100000
theorem C48 {l : List Piece} {i j : Nat} (hi : i < l.length) (hj : j < l.length) (hl : l.length ≤ 1000) : Fn Tryz.prog 48 [] [.v (.int .i64 i), .v (.int .i64 j), .rop [.ro (l.map Piece.av)]] [.v (.bool (z7 l[i] l[j]))] [] := by
 refine Spec.body Tryz.func48 rfl Tryz.ntmps48 (by simp) rfl ?_; intro S0 own0 v0 w0
 refine zA fun K hK => zB ?_
 refine zF (zD rfl rfl) ?_; try simp only [nA, Nat.reduceBEq, Nat.reduceEqDiff, ↓reduceIte, Nat.reduceAdd, Nat.reduceSub]
 refine zE (hK _ ?_); clear hK K; try simp only [nA, Nat.reduceBEq, Nat.reduceEqDiff, ↓reduceIte, Nat.reduceAdd, Nat.reduceSub]
 refine zA fun K hK => ?_
 refine zA fun K hK => ?_
 refine AW.quiet mix (by kernel_rfl) ?_
 (refine aqR (z6 rfl rfl ag31) ?_); try simp only [nA, Nat.reduceBEq, Nat.reduceEqDiff, ↓reduceIte, Nat.reduceAdd, Nat.reduceSub]
 refine zQ (zC rfl rfl) ?_; simp only [nA, ↓reduceIte]
 (refine zQ (zX _ rfl (.inl rfl) rfl Tryz.underlying31 rfl (get_map (by omega)) (by exact sz35) (bl rfl)) ?_); try simp only [nA, Nat.reduceBEq, Nat.reduceEqDiff, ↓reduceIte, Nat.reduceAdd, Nat.reduceSub]
 (refine zQ (yK rfl rfl fl35_1 (by exact sz3) (by decide) (bl rfl) rfl) ?_); try simp only [nA, Nat.reduceBEq, Nat.reduceEqDiff, ↓reduceIte, Nat.reduceAdd, Nat.reduceSub]
 (refine aqR (z6 rfl rfl ag3) ?_); try simp only [nA, Nat.reduceBEq, Nat.reduceEqDiff, ↓reduceIte, Nat.reduceAdd, Nat.reduceSub]
 (refine aqR (z6 rfl rfl ag31) ?_); try simp only [nA, Nat.reduceBEq, Nat.reduceEqDiff, ↓reduceIte, Nat.reduceAdd, Nat.reduceSub]
 refine zQ (zC rfl rfl) ?_; simp only [nA, ↓reduceIte]
 (refine zQ (zX _ rfl (.inl rfl) rfl Tryz.underlying31 rfl (get_map (by omega)) (by exact sz35) (bl rfl)) ?_); try simp only [nA, Nat.reduceBEq, Nat.reduceEqDiff, ↓reduceIte, Nat.reduceAdd, Nat.reduceSub]
 (refine zQ (yK rfl rfl fl35_1 (by exact sz3) (by decide) (bl rfl) rfl) ?_); try simp only [nA, Nat.reduceBEq, Nat.reduceEqDiff, ↓reduceIte, Nat.reduceAdd, Nat.reduceSub]
 (refine aqR (z6 rfl rfl ag3) ?_); try simp only [nA, Nat.reduceBEq, Nat.reduceEqDiff, ↓reduceIte, Nat.reduceAdd, Nat.reduceSub]
 (refine zQ (op_neq rfl rfl rfl) ?_); try simp only [nA, Nat.reduceBEq, Nat.reduceEqDiff, ↓reduceIte, Nat.reduceAdd, Nat.reduceSub]
 refine yM (hK _ ?_); clear hK K
 refine zL rfl rfl rfl (fun hc => ?_) (fun hc => ?_)
 ·
  (try simp only [zY] at hc); have hc1 := hc
  refine zA fun K hK => ?_
  refine AW.quiet mix (by kernel_rfl) ?_
  (refine aqR (z6 rfl rfl ag31) ?_); try simp only [nA, Nat.reduceBEq, Nat.reduceEqDiff, ↓reduceIte, Nat.reduceAdd, Nat.reduceSub]
  refine zQ (zC rfl rfl) ?_; simp only [nA, ↓reduceIte]
  (refine zQ (zX _ rfl (.inl rfl) rfl Tryz.underlying31 rfl (get_map (by omega)) (by exact sz35) (bl rfl)) ?_); try simp only [nA, Nat.reduceBEq, Nat.reduceEqDiff, ↓reduceIte, Nat.reduceAdd, Nat.reduceSub]
  (refine zQ (yK rfl rfl fl35_1 (by exact sz3) (by decide) (bl rfl) rfl) ?_); try simp only [nA, Nat.reduceBEq, Nat.reduceEqDiff, ↓reduceIte, Nat.reduceAdd, Nat.reduceSub]
  (refine aqR (z6 rfl rfl ag3) ?_); try simp only [nA, Nat.reduceBEq, Nat.reduceEqDiff, ↓reduceIte, Nat.reduceAdd, Nat.reduceSub]
  (refine aqR (z6 rfl rfl ag31) ?_); try simp only [nA, Nat.reduceBEq, Nat.reduceEqDiff, ↓reduceIte, Nat.reduceAdd, Nat.reduceSub]
  refine zQ (zC rfl rfl) ?_; simp only [nA, ↓reduceIte]
  (refine zQ (zX _ rfl (.inl rfl) rfl Tryz.underlying31 rfl (get_map (by omega)) (by exact sz35) (bl rfl)) ?_); try simp only [nA, Nat.reduceBEq, Nat.reduceEqDiff, ↓reduceIte, Nat.reduceAdd, Nat.reduceSub]
  (refine zQ (yK rfl rfl fl35_1 (by exact sz3) (by decide) (bl rfl) rfl) ?_); try simp only [nA, Nat.reduceBEq, Nat.reduceEqDiff, ↓reduceIte, Nat.reduceAdd, Nat.reduceSub]
  (refine aqR (z6 rfl rfl ag3) ?_); try simp only [nA, Nat.reduceBEq, Nat.reduceEqDiff, ↓reduceIte, Nat.reduceAdd, Nat.reduceSub]
  refine zQ (op_gtr rfl rfl rfl) ?_; try simp only [nA, Nat.reduceBEq, Nat.reduceEqDiff, ↓reduceIte, Nat.reduceAdd, Nat.reduceSub]
  refine zQ (zD rfl rfl) ?_; simp only [nA]
  refine yM (hK _ ?_); clear hK K
  skip
  refine zO ?_; (try simp only [zJ, zK, Nat.reduceEqDiff, ↓reduceIte]); rw [show z7 l[i] l[j] = decide (l[i].weight > l[j].weight) by unfold z7; simp [hc]]; exact zS rfl (.tmp (bl rfl) rfl rfl .nil)
 (try simp only [zY] at hc); have hc1 := hc
 refine zN ?_
 refine hK _ ?_; clear hK K
 refine zA fun K hK => ?_
 refine AW.quiet mix (by kernel_rfl) ?_
 (refine aqR (z6 rfl rfl ag31) ?_); try simp only [nA, Nat.reduceBEq, Nat.reduceEqDiff, ↓reduceIte, Nat.reduceAdd, Nat.reduceSub]
 refine zQ (zC rfl rfl) ?_; simp only [nA, ↓reduceIte]
 (refine zQ (zX _ rfl (.inl rfl) rfl Tryz.underlying31 rfl (get_map (by omega)) (by exact sz35) (bl rfl)) ?_); try simp only [nA, Nat.reduceBEq, Nat.reduceEqDiff, ↓reduceIte, Nat.reduceAdd, Nat.reduceSub]
 (refine zQ (yK rfl rfl fl35_0 (by exact sz23) (by decide) (bl rfl) rfl) ?_); try simp only [nA, Nat.reduceBEq, Nat.reduceEqDiff, ↓reduceIte, Nat.reduceAdd, Nat.reduceSub]
 (refine aqR (yF rfl rfl ag23 sz23 (bl rfl) (by decide) rfl) ?_); try simp only [nA, Nat.reduceBEq, Nat.reduceEqDiff, ↓reduceIte, Nat.reduceAdd, Nat.reduceSub]
 (refine aqR (z6 rfl rfl ag31) ?_); try simp only [nA, Nat.reduceBEq, Nat.reduceEqDiff, ↓reduceIte, Nat.reduceAdd, Nat.reduceSub]
 refine zQ (zC rfl rfl) ?_; simp only [nA, ↓reduceIte]
 (refine zQ (zX _ rfl (.inl rfl) rfl Tryz.underlying31 rfl (get_map (by omega)) (by exact sz35) (bl rfl)) ?_); try simp only [nA, Nat.reduceBEq, Nat.reduceEqDiff, ↓reduceIte, Nat.reduceAdd, Nat.reduceSub]
 (refine zQ (yK rfl rfl fl35_0 (by exact sz23) (by decide) (bl rfl) rfl) ?_); try simp only [nA, Nat.reduceBEq, Nat.reduceEqDiff, ↓reduceIte, Nat.reduceAdd, Nat.reduceSub]
 (refine aqR (yF rfl rfl ag23 sz23 (bl rfl) (by decide) rfl) ?_); try simp only [nA, Nat.reduceBEq, Nat.reduceEqDiff, ↓reduceIte, Nat.reduceAdd, Nat.reduceSub]
 refine aqQ (zT (b := true) rfl en49 (C49) (RL.cons (by exact View.same rfl) (RL.cons (by exact View.same rfl) (RL.nil))) rfl) ?_; try simp only [nA, Nat.reduceBEq, Nat.reduceEqDiff, ↓reduceIte, Nat.reduceAdd, Nat.reduceSub]
 refine zQ (op_lss rfl rfl rfl) ?_; try simp only [nA, Nat.reduceBEq, Nat.reduceEqDiff, ↓reduceIte, Nat.reduceAdd, Nat.reduceSub]
 refine zQ (zD rfl rfl) ?_; simp only [nA]
 refine yM (hK _ ?_); clear hK K
 skip
 refine zO ?_; (try simp only [zJ, zK, Nat.reduceEqDiff, ↓reduceIte]); rw [show z7 l[i] l[j] = decide (cmpP l[i].plate l[j].plate < 0) by unfold z7; simp [hc]]; exact zS rfl (.tmp (bl rfl) rfl rfl .nil)
end Go.Proofs.YtmdohphcolffmaaGreat
namespace Go.Proofs.YtmdohphcolffmaaGreat
set_option maxHeartbeats 8000000
open Go.RowKit Go.Shelf
section
open Go.Sort Go.Lib
noncomputable def pcT : TypeInfo := (Tryz.prog.info? 31).get (by kernel_rfl)
noncomputable def pcE : TypeInfo := (Tryz.prog.info? 35).get (by kernel_rfl)
theorem pcK (n : Nat) (h2 : 2 ≤ n) : Lib.swapperK n pcE 25 = 9 := by
 have a : pcE.hasPointers = false := by kernel_rfl
 have b : pcE.bytes = 40 := by kernel_rfl
 have c : (n == 0) = false := by simp; omega
 have d : (n == 1) = false := by simp; omega
 simp [Lib.swapperK, a, b, c, d]
def encP (p : Piece) : List Value := [.int .i64 p.plate.lead, .int .i64 p.plate.airline, .int .i64 p.plate.serial, .int .i64 p.weight, .int .i64 p.category]
theorem one_encP : ∀ x, ∀ v ∈ encP x, v.oneCell' = true := fun x v h => by
 simp only [encP, List.mem_cons, List.not_mem_nil, or_false] at h
 rcases h with rfl | rfl | rfl | rfl | rfl <;> rfl
noncomputable def th41 : Value := typeHandle Tryz.prog 35
theorem swp71 (blk n c : Nat) : SwapSwapsK Tryz.prog 92 #[.slice (some ⟨blk, 0, none⟩) n c, th41] encP 5 blk 0 n :=
 swapSwapsK_of_literal false 92 (fun args W => run_callFunc_extern Tryz.func92 (by kernel_rfl) (by kernel_rfl) (by kernel_rfl) (e := Extern.ReflectliteSwapper.swap false) (by kernel_rfl) args W) 35 pcE (by kernel_rfl) encP 5 (fun _ => rfl) (by kernel_rfl)
   (fun w => by first | exact Tryz.isAgg35 w | kernel_rfl) one_encP blk 0 n c
end
abbrev rowsP (d : Array Piece) : List (List AV) := d.toList.map Piece.av
theorem rowsP_flat (d : Array Piece) : ∀ r ∈ rowsP d, ∀ c ∈ r, flatA c = true := fun r hr c hc => by
 obtain ⟨p, _, rfl⟩ := List.mem_map.1 hr
 simp only [Piece.av, List.mem_cons, List.not_mem_nil, or_false] at hc
 rcases hc with rfl | rfl | rfl | rfl | rfl <;> rfl
/-- The two function values over the slice at u. -/
noncomputable abbrev dataW (u : Value) : List AV := [.clo 48 [.rop [.v u]], .clo 92 [.v u, .v th41]]
/-- .. while the slice is only read. -/
noncomputable abbrev dataR (d : Array Piece) (u : Value) : List AV := [.clo 48 [.rop [.ro (rowsP d)]], .clo 92 [.v u, .v th41]]
theorem C48a {d : Array Piece} {i j : Int} (hi : 0 ≤ i ∧ i < d.size) (hj : 0 ≤ j ∧ j < d.size) (hl : d.size ≤ 1000) : Fn Tryz.prog 48 [] ([.v (.int .i64 i), .v (.int .i64 j)] ++ [.rop [.ro (rowsP d)]]) [.v (.bool (z7 d[i.toNat]! d[j.toNat]!))] [] := by
 have h := C48 (l := d.toList) (i := i.toNat) (j := j.toNat) (by simp; omega) (by simp; omega) (by simpa using hl)
 rw [show ((i.toNat : Nat) : Int) = i by omega, show ((j.toNat : Nat) : Int) = j by omega] at h
 rw [getElem!_pos d _ (by omega), getElem!_pos d _ (by omega)]
 simpa using h
section
variable {S0 : Nat → Prop} {own0 : List Nat} {v0 : List Value} {w0 : World} {o : Oper} {ev : Operand → AV} {T : Sl} {p p1 p2 : Operand} {ts : Array TypeId} {r k : Nat} {u : Value} {d : Array Piece} {i j : Int}
theorem op_lt (ho : o.op = .call { callee := .value p, args := #[p1, p2], argTypes := ts }) (hp : ev p = .clo 48 [.rop [.v u]]) (h1 : ev p1 = .v (.int .i64 i)) (h2 : ev p2 = .v (.int .i64 j)) (hT : T.slots[r]? = some (k, .nm u 35 (rowsP d)))
   (hl : d.size ≤ 1000) (hi : 0 ≤ i ∧ i < d.size) (hj : 0 ≤ j ∧ j < d.size) : OpQ ⟨Tryz.prog, S0, own0, v0, w0⟩ o ev T (.v (.bool (z7 d[i.toNat]! d[j.toNat]!))) :=
 op_lessQ (xs := [.v (.int .i64 i), .v (.int .i64 j)]) ho hp hT (rowsP_flat d) (enters_of Tryz.func48 (by kernel_rfl) rfl) (C48a hi hj hl) (by rw [show (#[p1, p2] : Array Operand).toList.map ev = [ev p1, ev p2] from rfl, h1, h2]; exact ⟨rfl, fun q a b e1 e2 => by match q, e1, e2 with | 0, e1, e2 => injection e1 with e1; injection e2 with e2; subst e1; subst e2; exact .same rfl | 1, e1, e2 => injection e1 with e1; injection e2 with e2; subst e1; subst e2; exact .same rfl⟩) rfl
theorem op_ltR (ho : o.op = .call { callee := .value p, args := #[p1, p2], argTypes := ts }) (hp : ev p = .clo 48 [.rop [.ro (rowsP d)]]) (h1 : ev p1 = .v (.int .i64 i)) (h2 : ev p2 = .v (.int .i64 j))
   (hl : d.size ≤ 1000) (hi : 0 ≤ i ∧ i < d.size) (hj : 0 ≤ j ∧ j < d.size) : OpQ ⟨Tryz.prog, S0, own0, v0, w0⟩ o ev T (.v (.bool (z7 d[i.toNat]! d[j.toNat]!))) :=
 op_cloQ (b := true) (xs := [.v (.int .i64 i), .v (.int .i64 j)]) ho hp (enters_of Tryz.func48 (by kernel_rfl) rfl) (C48a hi hj hl) (by rw [show (#[p1, p2] : Array Operand).toList.map ev = [ev p1, ev p2] from rfl, h1, h2]; exact ⟨rfl, fun q a b e1 e2 => by match q, e1, e2 with | 0, e1, e2 => injection e1 with e1; injection e2 with e2; subst e1; subst e2; exact .same rfl | 1, e1, e2 => injection e1 with e1; injection e2 with e2; subst e1; subst e2; exact .same rfl⟩) rfl
theorem op_sw (ho : o.op = .call { callee := .value p, args := #[p1, p2], argTypes := ts }) (hp : ev p = .clo 92 [.v u, .v th41]) (h1 : ev p1 = .v (.int .i64 i)) (h2 : ev p2 = .v (.int .i64 j)) (hT : T.slots[r]? = some (k, .nm u 35 (rowsP d)))
   (hi : 0 ≤ i ∧ i < d.size) (hj : 0 ≤ j ∧ j < d.size) {T' : Sl} (hT' : (⟨T.slots.set r (k, .nm u 35 (rowsP (Go.Sort.swp d i.toNat j.toNat))), T.ep⟩ : Sl) = T') : OpJ ⟨Tryz.prog, S0, own0, v0, w0⟩ o ev T .any T' :=
 op_swapN (C := ⟨Tryz.prog, S0, own0, v0, w0⟩) (enc := encP) (k := 5) (ds := d.toList) (i := i.toNat) (j := j.toNat) (ui := i) (uj := j) (u := u) (th := th41) (e := 35) (r := r) (k0 := k) (sf := 92) (fun _ => rfl) one_encP ho hp h1 h2 hT sz35 (by omega) (by omega) (by rw [Array.length_toList]; omega) (by rw [Array.length_toList]; omega) (fun blk n c e => by rw [e]; exact swp71 blk n c) hT'
end
end Go.Proofs.YtmdohphcolffmaaGreat
namespace Go.Proofs.YtmdohphcolffmaaGreat
set_option maxHeartbeats 8000000
open Go.RowKit
set_option linter.unusedSimpArgs false
set_option linter.unusedVariables false
set_option maxRecDepth 100000
section
open Go.Sort
variable {lt : Piece → Piece → Bool}
theorem inner_pos {a j : Nat} {d : Array Piece} (h : a < j) (hl : lt d[j]! d[j - 1]! = true) : insInner lt a j d = insInner lt a (j - 1) (swp d j (j - 1)) := by
 obtain ⟨j, rfl⟩ : ∃ q, j = q + 1 := ⟨j - 1, by omega⟩
 rw [insInner, if_pos (by simp at hl ⊢; exact ⟨h, hl⟩)]; rfl
theorem inner_neg {a j : Nat} {d : Array Piece} (h : ¬ (a < j ∧ lt d[j]! d[j - 1]! = true)) : insInner lt a j d = d := by
 cases j with
 | zero => rfl
 | succ j => rw [insInner, if_neg (by simp at h ⊢; exact h)]
theorem outer_pos {a b i : Nat} {d : Array Piece} (h : i < b) : insOuter lt a b i d = insOuter lt a b (i + 1) (insInner lt a i d) := by rw [insOuter, if_pos h]
theorem outer_neg {a b i : Nat} {d : Array Piece} (h : ¬ i < b) : insOuter lt a b i d = d := by rw [insOuter, if_neg h]
end
theorem ag87 : aggB Tryz.prog 87 = some false := by kernel_rfl
theorem ag108 : aggB Tryz.prog 108 = some false := by kernel_rfl
theorem vint {a b : Int} (h : a = b) : AV.v (.int .i64 a) = AV.v (.int .i64 b) := by rw [h]
abbrev srt (u : Value) (d : Array Piece) : AV := .nm u 35 (rowsP d)
theorem C95 {u : Value} {d : Array Piece} {a b : Nat} (hab : a ≤ b) (hb : b ≤ d.size) (hl : d.size ≤ 1000) : Fn Tryz.prog 95 [srt u d] [.agg (dataW u), .v (.int .i64 a), .v (.int .i64 b)] [] [srt u (Go.Sort.insertionSort z7 d a b)] := by
 refine Spec.body Tryz.func95 rfl Tryz.ntmps95 (by simp) rfl ?_; intro S0 own0 v0 w0
 refine zA fun K hK => zB ?_
 refine yB (yL rfl rfl rfl sz114 rfl) ?_; simp only [nA, Nat.reduceBEq, Nat.reduceEqDiff, ↓reduceIte]
 refine zE (hK _ ?_); clear hK K; try simp only [nA, Nat.reduceBEq, Nat.reduceEqDiff, ↓reduceIte, Nat.reduceAdd, Nat.reduceSub]
 refine zA fun K hK => zB ?_
 refine zF (zC rfl rfl) ?_; simp only [nA, ↓reduceIte]
 (refine zF (zR rfl rfl rfl (by omega)) ?_); try simp only [nA, Nat.reduceBEq, Nat.reduceEqDiff, ↓reduceIte, Nat.reduceAdd, Nat.reduceSub]
 refine zF (zD rfl rfl) ?_; simp only [nA]
 refine zE (hK _ ?_); clear hK K
 refine zP ?_
 refine yG (fun (q : Nat × Array Piece) => [(1, .v (.int .i64 a)), (2, .v (.int .i64 b)), (3, .ptr 1 1 0 0), (6, .v (.int .i64 (q.1 : Nat)))]) (fun q => ⟨[(0, srt u q.2), (1, .own 114 [dataW u])], 2⟩) (fun q => a < q.1 ∧ q.1 ≤ b + 1 ∧ q.2.size = d.size ∧ Go.Sort.insOuter z7 a b q.1 q.2 = Go.Sort.insOuter z7 a b (a + 1) d) (fun q => b + 1 - q.1) (a + 1, d) ⟨by omega, by omega, rfl, rfl⟩ ⟨rfl, rfl, rfl, rfl, trivial⟩ rfl ?_; rintro ⟨i, dk⟩ ρ ⟨hi1, hi2, hs, hO⟩; dsimp only at hi1 hi2 hs hO ⊢; simp only [updL]
 refine zA fun K hK => ?_
 refine zA fun K hK => zB ?_
 refine zF (zC rfl rfl) ?_; simp only [nA, ↓reduceIte]
 refine zF (zC rfl rfl) ?_; simp only [nA, ↓reduceIte]
 refine zF (op_lss rfl rfl rfl) ?_; try simp only [nA, Nat.reduceBEq, Nat.reduceEqDiff, ↓reduceIte, Nat.reduceAdd, Nat.reduceSub]
 refine zE (hK _ ?_); clear hK K
 refine zL rfl rfl rfl (fun hc => ?_) (fun hc => ?_)
 ·
  (try simp only [zY] at hc); have hc1 := hc
  refine zN ?_
  refine hK _ ?_; clear hK K
  refine zA fun K hK => zP ?_
  refine zA fun K hK => zB ?_
  refine zF (zC rfl rfl) ?_; simp only [nA, ↓reduceIte]
  refine zF (zD rfl rfl) ?_; simp only [nA]
  refine zE (hK _ ?_); clear hK K
  refine zP ?_
  refine yG (fun (q : Nat × Array Piece) => [(1, .v (.int .i64 a)), (2, .v (.int .i64 b)), (3, .ptr 1 1 0 0), (6, .v (.int .i64 (i : Nat))), (7, .v (.int .i64 (q.1 : Nat)))]) (fun q => ⟨[(0, srt u q.2), (1, .own 114 [dataW u])], 2⟩) (fun q => a ≤ q.1 ∧ q.1 ≤ i ∧ q.2.size = d.size ∧ Go.Sort.insInner z7 a q.1 q.2 = Go.Sort.insInner z7 a i dk) (fun q => q.1) (i, dk) ⟨by omega, by omega, hs, rfl⟩ ⟨rfl, rfl, rfl, rfl, rfl, trivial⟩ rfl ?_; rintro ⟨j, dj⟩ ρ ⟨hj1, hj2, hs2, hI⟩; dsimp only at hj1 hj2 hs2 hI ⊢; simp only [updL]
  refine zA fun K hK => ?_
  refine zA fun K hK => zB (AWL.quiet ?_)
  refine zQ (zC rfl rfl) ?_; simp only [nA, ↓reduceIte]
  refine zQ (zC rfl rfl) ?_; simp only [nA, ↓reduceIte]
  refine zQ (op_gtr rfl rfl rfl) ?_; try simp only [nA, Nat.reduceBEq, Nat.reduceEqDiff, ↓reduceIte, Nat.reduceAdd, Nat.reduceSub]
  refine zQ (zC rfl rfl) ?_; simp only [nA]
  refine' yE [_, _, _, _, _, _] [20,21,22,23,24,25] rfl rfl rfl rfl rfl rfl rfl rfl rfl rfl rfl rfl (fun hb => ?_) ?_; rotate_left
  ·
   (try simp only [zY] at hb)
   (refine zQ (zH rfl rfl rfl fl114_0 (by exact sz2) (by decide) rfl) ?_); try simp only [nA, Nat.reduceBEq, Nat.reduceEqDiff, ↓reduceIte, Nat.reduceAdd, Nat.reduceSub]
   (refine aqR (zG rfl rfl rfl rfl ag87 rfl rfl) ?_); try simp only [nA, Nat.reduceBEq, Nat.reduceEqDiff, ↓reduceIte, Nat.reduceAdd, Nat.reduceSub]
   refine zQ (zC rfl rfl) ?_; simp only [nA, ↓reduceIte]
   refine zQ (zC rfl rfl) ?_; simp only [nA, ↓reduceIte]
   (refine zQ (op_subi rfl rfl rfl (by omega)) ?_); try simp only [nA, Nat.reduceBEq, Nat.reduceEqDiff, ↓reduceIte, Nat.reduceAdd, Nat.reduceSub]
   refine aqQ (op_lt (r := 0) (d := dj) rfl rfl rfl rfl rfl (by omega) (by omega) (by omega)) ?_; try simp only [nA, Nat.reduceBEq, Nat.reduceEqDiff, ↓reduceIte, Nat.reduceAdd, Nat.reduceSub]
   (refine yJ rfl rfl rfl ?_; repeat (first | exact fun _ _ => rfl | refine zU rfl ?_))
  refine yM (hK _ ?_); clear hK K
  refine zL rfl rfl rfl (fun hc => ?_) (fun hc => ?_)
  ·
   (try simp only [zY] at hc); have hc2 := hc; simp only [Int.toNat_natCast, Bool.and_eq_true, decide_eq_true_eq, show ((j : Int) - 1).toNat = j - 1 by omega] at hc
   refine zN ?_
   refine hK _ ?_; clear hK K
   refine zA fun K hK => zP ?_
   refine zB ?_
   (refine zF (zH rfl rfl rfl fl114_1 (by exact sz2) (by decide) rfl) ?_); try simp only [nA, Nat.reduceBEq, Nat.reduceEqDiff, ↓reduceIte, Nat.reduceAdd, Nat.reduceSub]
   (refine awR (zG rfl rfl rfl rfl ag108 rfl rfl) ?_); try simp only [nA, Nat.reduceBEq, Nat.reduceEqDiff, ↓reduceIte, Nat.reduceAdd, Nat.reduceSub]
   refine zF (zC rfl rfl) ?_; simp only [nA, Nat.reduceEqDiff, ↓reduceIte]
   refine zF (zC rfl rfl) ?_; simp only [nA, Nat.reduceEqDiff, ↓reduceIte]
   (refine zF (op_subi rfl rfl rfl (by omega)) ?_); try simp only [nA, Nat.reduceBEq, Nat.reduceEqDiff, ↓reduceIte, Nat.reduceAdd, Nat.reduceSub]
   refine yB (op_sw (r := 0) (d := dj) rfl rfl rfl rfl rfl (by omega) (by omega) rfl) ?_; try simp only [nA, Nat.reduceBEq, Nat.reduceEqDiff, ↓reduceIte, Nat.reduceAdd, Nat.reduceSub]
   refine zE ?_
   (try simp only [zJ, zK, Nat.reduceEqDiff, ↓reduceIte])
   refine hK _ ?_; clear hK K
   refine zB ?_
   refine zF (zC rfl rfl) ?_; simp only [nA, Nat.reduceEqDiff, ↓reduceIte]
   (refine zF (op_subi rfl rfl rfl (by omega)) ?_); try simp only [nA, Nat.reduceBEq, Nat.reduceEqDiff, ↓reduceIte, Nat.reduceAdd, Nat.reduceSub]
   refine zF (zD rfl rfl) ?_; simp only [nA]
   skip
   refine zE ?_
   refine ⟨(j - 1, Go.Sort.swp dj j (j - 1)), ⟨by omega, by omega, by simp [Go.Sort.size_swp, hs2], by rw [← hI]; exact (inner_pos (lt := z7) (a := a) (j := j) (d := dj) (by omega) hc.2).symm⟩, by omega, ⟨rfl, rfl, rfl, rfl, vint (by omega), trivial⟩, (by simp only [Int.toNat_natCast, show ((j : Int) - 1).toNat = j - 1 by omega]), rfl⟩
  (try simp only [zY] at hc); have hc2 := hc; simp only [Int.toNat_natCast, Bool.and_eq_true, decide_eq_true_eq, show ((j : Int) - 1).toNat = j - 1 by omega] at hc
  refine yI ?_; try simp only [zJ, zK, Nat.reduceEqDiff, ↓reduceIte]
  clear hK K
  (try simp only [zJ, zK, Nat.reduceEqDiff, ↓reduceIte])
  refine hK _ ?_; clear hK K
  refine zB ?_
  refine zF (zC rfl rfl) ?_; simp only [nA, Nat.reduceEqDiff, ↓reduceIte]
  (refine zF (zR rfl rfl rfl (by omega)) ?_); try simp only [nA, Nat.reduceBEq, Nat.reduceEqDiff, ↓reduceIte, Nat.reduceAdd, Nat.reduceSub]
  refine zF (zD rfl rfl) ?_; simp only [nA]
  skip
  refine zE ?_
  refine ⟨(i + 1, dj), ⟨by omega, by omega, hs2, by rw [← hO, outer_pos (d := dk) (show i < b by omega), ← hI, inner_neg (by rintro ⟨h1, h2⟩; rcases hc with h | h; omega; rw [h] at h2; cases h2)]⟩, by omega, ⟨rfl, rfl, rfl, rfl, trivial⟩, rfl, rfl⟩
 (try simp only [zY] at hc); have hc1 := hc
 refine yI ?_; try simp only [zJ, zK, Nat.reduceEqDiff, ↓reduceIte]
 clear hK K
 rw [show Go.Sort.insertionSort z7 d a b = dk by unfold Go.Sort.insertionSort; rw [← hO]; exact outer_neg (by omega)]; exact RQ.of (.inr rfl) rfl .nil (by simp) rfl (one_out rfl)
set_option maxRecDepth 100000
section
open Go.Sort
variable {lt : Piece → Piece → Bool} {hi f r : Nat} {d : Array Piece}
theorem sift_end (h : hi ≤ 2 * r + 1) : siftDown lt hi f r d = d := by unfold siftDown; rw [dif_pos h]
theorem sift_R0 (h : 2 * r + 2 < hi) (h1 : lt d[f + (2 * r + 1)]! d[f + (2 * r + 1) + 1]! = true) (h2 : lt d[f + r]! d[f + (2 * r + 2)]! = false) : siftDown lt hi f r d = d := by
 unfold siftDown
 rw [dif_neg (by omega), if_pos (by simp only [Bool.and_eq_true, decide_eq_true_eq]; exact ⟨by omega, h1⟩), if_pos (by rw [h2]; rfl)]
theorem sift_R1 (h : 2 * r + 2 < hi) (h1 : lt d[f + (2 * r + 1)]! d[f + (2 * r + 1) + 1]! = true) (h2 : lt d[f + r]! d[f + (2 * r + 2)]! = true) : siftDown lt hi f r d = siftDown lt hi f (2 * r + 2) (swp d (f + r) (f + (2 * r + 2))) := by
 rw [siftDown]
 rw [dif_neg (by omega), if_pos (by simp only [Bool.and_eq_true, decide_eq_true_eq]; exact ⟨by omega, h1⟩), if_neg (by rw [h2]; decide), dif_pos h]
theorem sift_L0 (h : 2 * r + 1 < hi) (h1 : ¬ (2 * r + 2 < hi ∧ lt d[f + (2 * r + 1)]! d[f + (2 * r + 1) + 1]! = true)) (h2 : lt d[f + r]! d[f + (2 * r + 1)]! = false) : siftDown lt hi f r d = d := by
 unfold siftDown
 rw [dif_neg (by omega), if_neg (by simp only [Bool.and_eq_true, decide_eq_true_eq]; exact h1), if_pos (by rw [h2]; rfl)]
theorem sift_L1 (h : 2 * r + 1 < hi) (h1 : ¬ (2 * r + 2 < hi ∧ lt d[f + (2 * r + 1)]! d[f + (2 * r + 1) + 1]! = true)) (h2 : lt d[f + r]! d[f + (2 * r + 1)]! = true) : siftDown lt hi f r d = siftDown lt hi f (2 * r + 1) (swp d (f + r) (f + (2 * r + 1))) := by
 rw [siftDown]
 rw [dif_neg (by omega), if_neg (by simp only [Bool.and_eq_true, decide_eq_true_eq]; exact h1), if_neg (by rw [h2]; decide)]
theorem size_sift : ∀ (n r : Nat) (d : Array Piece), hi - r = n → (siftDown lt hi f r d).size = d.size := by
 intro n
 induction n using Nat.strongRecOn with
 | _ n ih =>
   intro r d hn
   rw [siftDown]
   split
   · rfl
   split
   · split
     · rfl
     split
     · rw [ih _ (by omega) _ _ rfl, size_swp]
     rfl
   split
   · rfl
   rw [ih _ (by omega) _ _ rfl, size_swp]
end
theorem C109 {u : Value} {d : Array Piece} {lo hi f : Nat} (hlo : lo ≤ 1000) (hb : f + hi ≤ d.size) (hl : d.size ≤ 1000) : Fn Tryz.prog 109 [srt u d] [.agg (dataW u), .v (.int .i64 lo), .v (.int .i64 hi), .v (.int .i64 f)] [] [srt u (Go.Sort.siftDown z7 hi f lo d)] := by
 refine Spec.body Tryz.func109 rfl Tryz.ntmps109 (by simp) rfl ?_; intro S0 own0 v0 w0
 refine zA fun K hK => zB ?_
 refine yB (yL rfl rfl rfl sz114 rfl) ?_; simp only [nA, Nat.reduceBEq, Nat.reduceEqDiff, ↓reduceIte]
 refine zE (hK _ ?_); clear hK K; try simp only [nA, Nat.reduceBEq, Nat.reduceEqDiff, ↓reduceIte, Nat.reduceAdd, Nat.reduceSub]
 refine zA fun K hK => zB ?_
 refine zF (zC rfl rfl) ?_; simp only [nA, ↓reduceIte]
 refine zF (zD rfl rfl) ?_; simp only [nA]
 refine zE (hK _ ?_); clear hK K
 refine zP ?_
 refine yG (fun (q : Nat × Array Piece) => [(2, .v (.int .i64 hi)), (3, .v (.int .i64 f)), (4, .ptr 1 1 0 0), (8, .v (.int .i64 (q.1 : Nat)))]) (fun q => ⟨[(0, srt u q.2), (1, .own 114 [dataW u])], 2⟩) (fun q => q.1 ≤ 1000 ∧ q.2.size = d.size ∧ Go.Sort.siftDown z7 hi f q.1 q.2 = Go.Sort.siftDown z7 hi f lo d) (fun q => hi - q.1) (lo, d) ⟨by omega, rfl, rfl⟩ ⟨rfl, rfl, rfl, rfl, trivial⟩ rfl ?_; rintro ⟨r, dk⟩ ρ ⟨hr, hs, hO⟩; dsimp only at hr hs hO ⊢; simp only [updL]
 refine zP ?_
 refine zA fun K hK => zB ?_
 refine zF (zC rfl rfl) ?_; simp only [nA, ↓reduceIte]
 (refine zF (op_muli rfl rfl rfl (by omega)) ?_); try simp only [nA, Nat.reduceBEq, Nat.reduceEqDiff, ↓reduceIte, Nat.reduceAdd, Nat.reduceSub]
 (refine zF (zR rfl rfl rfl (by omega)) ?_); try simp only [nA, Nat.reduceBEq, Nat.reduceEqDiff, ↓reduceIte, Nat.reduceAdd, Nat.reduceSub]
 refine zF (zD rfl rfl) ?_; simp only [nA]
 refine zE (hK _ ?_); clear hK K
 refine zA fun K hK => ?_
 refine zA fun K hK => zB ?_
 refine zF (zC rfl rfl) ?_; simp only [nA]
 refine zF (zC rfl rfl) ?_; simp only [nA, ↓reduceIte]
 refine zF (op_geq rfl rfl rfl) ?_; try simp only [nA, Nat.reduceBEq, Nat.reduceEqDiff, ↓reduceIte, Nat.reduceAdd, Nat.reduceSub]
 refine zE (hK _ ?_); clear hK K
 refine zL rfl rfl rfl (fun hc => ?_) (fun hc => ?_)
 ·
  (try simp only [zY] at hc); have hc1 := hc
  refine yI ?_; try simp only [zJ, zK, Nat.reduceEqDiff, ↓reduceIte]
  clear hK K
  rw [← hO, sift_end (d := dk) (by omega)]; exact RQ.of (by exact .inr rfl) rfl .nil (by simp) rfl (one_out rfl)
 (try simp only [zY] at hc); have hc1 := hc
 refine zN ?_
 refine hK _ ?_; clear hK K
 refine zA fun K hK => ?_
 refine zA fun K hK => zB (AWL.quiet ?_)
 refine zQ (zC rfl rfl) ?_; simp only [nA, ↓reduceIte]
 (refine zQ (zR rfl rfl rfl (by omega)) ?_); try simp only [nA, Nat.reduceBEq, Nat.reduceEqDiff, ↓reduceIte, Nat.reduceAdd, Nat.reduceSub]
 refine zQ (zC rfl rfl) ?_; simp only [nA, ↓reduceIte]
 refine zQ (op_lss rfl rfl rfl) ?_; try simp only [nA, Nat.reduceBEq, Nat.reduceEqDiff, ↓reduceIte, Nat.reduceAdd, Nat.reduceSub]
 refine zQ (zC rfl rfl) ?_; simp only [nA]
 refine' yE [_, _, _, _, _, _, _, _, _, _] [22,23,24,25,26,27,28,29,30,31] rfl rfl rfl rfl rfl rfl rfl rfl rfl rfl rfl rfl (fun hb => ?_) ?_; rotate_left
 ·
  (try simp only [zY] at hb)
  (refine zQ (zH rfl rfl rfl fl114_0 (by exact sz2) (by decide) rfl) ?_); try simp only [nA, Nat.reduceBEq, Nat.reduceEqDiff, ↓reduceIte, Nat.reduceAdd, Nat.reduceSub]
  (refine aqR (zG rfl rfl rfl rfl ag87 rfl rfl) ?_); try simp only [nA, Nat.reduceBEq, Nat.reduceEqDiff, ↓reduceIte, Nat.reduceAdd, Nat.reduceSub]
  refine zQ (zC rfl rfl) ?_; simp only [nA, ↓reduceIte]
  refine zQ (zC rfl rfl) ?_; simp only [nA, ↓reduceIte]
  (refine zQ (zR rfl rfl rfl (by omega)) ?_); try simp only [nA, Nat.reduceBEq, Nat.reduceEqDiff, ↓reduceIte, Nat.reduceAdd, Nat.reduceSub]
  refine zQ (zC rfl rfl) ?_; simp only [nA, ↓reduceIte]
  refine zQ (zC rfl rfl) ?_; simp only [nA, ↓reduceIte]
  (refine zQ (zR rfl rfl rfl (by omega)) ?_); try simp only [nA, Nat.reduceBEq, Nat.reduceEqDiff, ↓reduceIte, Nat.reduceAdd, Nat.reduceSub]
  (refine zQ (zR rfl rfl rfl (by omega)) ?_); try simp only [nA, Nat.reduceBEq, Nat.reduceEqDiff, ↓reduceIte, Nat.reduceAdd, Nat.reduceSub]
  refine aqQ (op_lt (r := 0) (d := dk) rfl rfl rfl rfl rfl (by omega) (by omega) (by omega)) ?_; try simp only [nA, Nat.reduceBEq, Nat.reduceEqDiff, ↓reduceIte, Nat.reduceAdd, Nat.reduceSub]
  (refine yJ rfl rfl rfl ?_; repeat (first | exact fun _ _ => rfl | refine zU rfl ?_))
 refine yM (hK _ ?_); clear hK K
 refine zL rfl rfl rfl (fun hc => ?_) (fun hc => ?_)
 ·
  (try simp only [zY] at hc); have hc2 := hc; have e1 : ((f : Int) + (r : Int)).toNat = f + r := (by omega); have e2 : ((f : Int) + (2 * (r : Int) + 1)).toNat = f + (2 * r + 1) := (by omega); have e3 : ((f : Int) + (2 * (r : Int) + 1) + 1).toNat = f + (2 * r + 1) + 1 := (by omega); have e4 : ((f : Int) + (2 * (r : Int) + 1 + 1)).toNat = f + (2 * r + 2) := (by omega); simp only [Bool.and_eq_true, decide_eq_true_eq, e2, e3] at hc hc2
  refine zB ?_
  refine zF (zC rfl rfl) ?_; simp only [nA, Nat.reduceEqDiff, ↓reduceIte]
  (refine zF (zR rfl rfl rfl (by omega)) ?_); try simp only [nA, Nat.reduceBEq, Nat.reduceEqDiff, ↓reduceIte, Nat.reduceAdd, Nat.reduceSub]
  refine zF (zD rfl rfl) ?_; simp only [nA]
  refine zE (hK _ ?_); clear hK K
  refine zA fun K hK => ?_
  refine zA fun K hK => zB ?_
  (refine zF (zH rfl rfl rfl fl114_0 (by exact sz2) (by decide) rfl) ?_); try simp only [nA, Nat.reduceBEq, Nat.reduceEqDiff, ↓reduceIte, Nat.reduceAdd, Nat.reduceSub]
  (refine awR (zG rfl rfl rfl rfl ag87 rfl rfl) ?_); try simp only [nA, Nat.reduceBEq, Nat.reduceEqDiff, ↓reduceIte, Nat.reduceAdd, Nat.reduceSub]
  refine zF (zC rfl rfl) ?_; simp only [nA, Nat.reduceEqDiff, ↓reduceIte]
  refine zF (zC rfl rfl) ?_; simp only [nA, Nat.reduceEqDiff, ↓reduceIte]
  (refine zF (zR rfl rfl rfl (by omega)) ?_); try simp only [nA, Nat.reduceBEq, Nat.reduceEqDiff, ↓reduceIte, Nat.reduceAdd, Nat.reduceSub]
  refine zF (zC rfl rfl) ?_; simp only [nA, Nat.reduceEqDiff, ↓reduceIte]
  refine zF (zC rfl rfl) ?_; simp only [nA, ↓reduceIte]
  (refine zF (zR rfl rfl rfl (by omega)) ?_); try simp only [nA, Nat.reduceBEq, Nat.reduceEqDiff, ↓reduceIte, Nat.reduceAdd, Nat.reduceSub]
  refine yB (OpQ.j (op_lt (r := 0) (d := dk) rfl rfl rfl rfl rfl (by omega) (by omega) (by omega))) ?_; try simp only [nA, Nat.reduceBEq, Nat.reduceEqDiff, ↓reduceIte, Nat.reduceAdd, Nat.reduceSub]
  refine zF (op_not rfl rfl rfl) ?_; try simp only [nA, Nat.reduceBEq, Nat.reduceEqDiff, ↓reduceIte, Nat.reduceAdd, Nat.reduceSub]
  refine zE (hK _ ?_); clear hK K
  refine zL rfl rfl rfl (fun hc => ?_) (fun hc => ?_)
  ·
   (try simp only [zY] at hc); have hc3 := hc; simp only [e1, e4] at hc hc3
   skip
   refine zO ?_; (try simp only [zJ, zK, Nat.reduceEqDiff, ↓reduceIte]); rw [← hO, sift_R0 (d := dk) (by omega) hc2.2 hc3]; exact RQ.of (by exact .inl rfl) rfl .nil (by simp) rfl (one_out rfl)
  (try simp only [zY] at hc); have hc3 := hc; simp only [e1, e4] at hc hc3
  refine zN ?_
  refine hK _ ?_; clear hK K
  refine zA fun K hK => zB ?_
  (refine zF (zH rfl rfl rfl fl114_1 (by exact sz2) (by decide) rfl) ?_); try simp only [nA, Nat.reduceBEq, Nat.reduceEqDiff, ↓reduceIte, Nat.reduceAdd, Nat.reduceSub]
  (refine awR (zG rfl rfl rfl rfl ag108 rfl rfl) ?_); try simp only [nA, Nat.reduceBEq, Nat.reduceEqDiff, ↓reduceIte, Nat.reduceAdd, Nat.reduceSub]
  refine zF (zC rfl rfl) ?_; simp only [nA, Nat.reduceEqDiff, ↓reduceIte]
  refine zF (zC rfl rfl) ?_; simp only [nA, Nat.reduceEqDiff, ↓reduceIte]
  (refine zF (zR rfl rfl rfl (by omega)) ?_); try simp only [nA, Nat.reduceBEq, Nat.reduceEqDiff, ↓reduceIte, Nat.reduceAdd, Nat.reduceSub]
  refine zF (zC rfl rfl) ?_; simp only [nA, Nat.reduceEqDiff, ↓reduceIte]
  refine zF (zC rfl rfl) ?_; simp only [nA, ↓reduceIte]
  (refine zF (zR rfl rfl rfl (by omega)) ?_); try simp only [nA, Nat.reduceBEq, Nat.reduceEqDiff, ↓reduceIte, Nat.reduceAdd, Nat.reduceSub]
  refine yB (op_sw (r := 0) (d := dk) rfl rfl rfl rfl rfl (by omega) (by omega) rfl) ?_; try simp only [nA, Nat.reduceBEq, Nat.reduceEqDiff, ↓reduceIte, Nat.reduceAdd, Nat.reduceSub]
  refine zE (hK _ ?_); clear hK K
  refine zB ?_
  refine zF (zC rfl rfl) ?_; simp only [nA, ↓reduceIte]
  refine zF (zD rfl rfl) ?_; simp only [nA]
  refine zE ?_
  (try simp only [zJ, zK, Nat.reduceEqDiff, ↓reduceIte])
  refine ⟨(2 * r + 2, Go.Sort.swp dk (f + r) (f + (2 * r + 2))), ⟨by omega, by simp [Go.Sort.size_swp, hs], by rw [← hO]; exact (sift_R1 (lt := z7) (hi := hi) (f := f) (r := r) (d := dk) (by omega) hc2.2 hc3).symm⟩, by omega, ⟨rfl, rfl, rfl, vint (by omega), trivial⟩, (by simp only [e1, e4]), (by trivial)⟩
 (try simp only [zY] at hc); have hc2 := hc; have e1 : ((f : Int) + (r : Int)).toNat = f + r := (by omega); have e2 : ((f : Int) + (2 * (r : Int) + 1)).toNat = f + (2 * r + 1) := (by omega); have e3 : ((f : Int) + (2 * (r : Int) + 1) + 1).toNat = f + (2 * r + 1) + 1 := (by omega); have e4 : ((f : Int) + (2 * (r : Int) + 1 + 1)).toNat = f + (2 * r + 2) := (by omega); simp only [Bool.and_eq_true, decide_eq_true_eq, e2, e3] at hc hc2
 refine zN ?_
 refine hK _ ?_; clear hK K
 refine zA fun K hK => ?_
 refine zA fun K hK => zB ?_
 (refine zF (zH rfl rfl rfl fl114_0 (by exact sz2) (by decide) rfl) ?_); try simp only [nA, Nat.reduceBEq, Nat.reduceEqDiff, ↓reduceIte, Nat.reduceAdd, Nat.reduceSub]
 (refine awR (zG rfl rfl rfl rfl ag87 rfl rfl) ?_); try simp only [nA, Nat.reduceBEq, Nat.reduceEqDiff, ↓reduceIte, Nat.reduceAdd, Nat.reduceSub]
 refine zF (zC rfl rfl) ?_; simp only [nA, Nat.reduceEqDiff, ↓reduceIte]
 refine zF (zC rfl rfl) ?_; simp only [nA, Nat.reduceEqDiff, ↓reduceIte]
 (refine zF (zR rfl rfl rfl (by omega)) ?_); try simp only [nA, Nat.reduceBEq, Nat.reduceEqDiff, ↓reduceIte, Nat.reduceAdd, Nat.reduceSub]
 refine zF (zC rfl rfl) ?_; simp only [nA, Nat.reduceEqDiff, ↓reduceIte]
 refine zF (zC rfl rfl) ?_; simp only [nA, Nat.reduceEqDiff, ↓reduceIte]
 (refine zF (zR rfl rfl rfl (by omega)) ?_); try simp only [nA, Nat.reduceBEq, Nat.reduceEqDiff, ↓reduceIte, Nat.reduceAdd, Nat.reduceSub]
 refine yB (OpQ.j (op_lt (r := 0) (d := dk) rfl rfl rfl rfl rfl (by omega) (by omega) (by omega))) ?_; try simp only [nA, Nat.reduceBEq, Nat.reduceEqDiff, ↓reduceIte, Nat.reduceAdd, Nat.reduceSub]
 refine zF (op_not rfl rfl rfl) ?_; try simp only [nA, Nat.reduceBEq, Nat.reduceEqDiff, ↓reduceIte, Nat.reduceAdd, Nat.reduceSub]
 refine zE (hK _ ?_); clear hK K
 refine zL rfl rfl rfl (fun hc => ?_) (fun hc => ?_)
 ·
  (try simp only [zY] at hc); have hc4 := hc; simp only [e1, e2] at hc hc4
  skip
  refine zO ?_; (try simp only [zJ, zK, Nat.reduceEqDiff, ↓reduceIte]); rw [← hO, sift_L0 (d := dk) (by omega) (by rintro ⟨h1, h2⟩; rcases hc2 with h | h; omega; rw [h] at h2; cases h2) hc4]; exact RQ.of (by exact .inl rfl) rfl .nil (by simp) rfl (one_out rfl)
 (try simp only [zY] at hc); have hc4 := hc; simp only [e1, e2] at hc hc4
 refine zN ?_
 refine hK _ ?_; clear hK K
 refine zA fun K hK => zB ?_
 (refine zF (zH rfl rfl rfl fl114_1 (by exact sz2) (by decide) rfl) ?_); try simp only [nA, Nat.reduceBEq, Nat.reduceEqDiff, ↓reduceIte, Nat.reduceAdd, Nat.reduceSub]
 (refine awR (zG rfl rfl rfl rfl ag108 rfl rfl) ?_); try simp only [nA, Nat.reduceBEq, Nat.reduceEqDiff, ↓reduceIte, Nat.reduceAdd, Nat.reduceSub]
 refine zF (zC rfl rfl) ?_; simp only [nA, Nat.reduceEqDiff, ↓reduceIte]
 refine zF (zC rfl rfl) ?_; simp only [nA, Nat.reduceEqDiff, ↓reduceIte]
 (refine zF (zR rfl rfl rfl (by omega)) ?_); try simp only [nA, Nat.reduceBEq, Nat.reduceEqDiff, ↓reduceIte, Nat.reduceAdd, Nat.reduceSub]
 refine zF (zC rfl rfl) ?_; simp only [nA, Nat.reduceEqDiff, ↓reduceIte]
 refine zF (zC rfl rfl) ?_; simp only [nA, Nat.reduceEqDiff, ↓reduceIte]
 (refine zF (zR rfl rfl rfl (by omega)) ?_); try simp only [nA, Nat.reduceBEq, Nat.reduceEqDiff, ↓reduceIte, Nat.reduceAdd, Nat.reduceSub]
 refine yB (op_sw (r := 0) (d := dk) rfl rfl rfl rfl rfl (by omega) (by omega) rfl) ?_; try simp only [nA, Nat.reduceBEq, Nat.reduceEqDiff, ↓reduceIte, Nat.reduceAdd, Nat.reduceSub]
 refine zE (hK _ ?_); clear hK K
 refine zB ?_
 refine zF (zC rfl rfl) ?_; simp only [nA, Nat.reduceEqDiff, ↓reduceIte]
 refine zF (zD rfl rfl) ?_; simp only [nA]
 refine zE ?_
 (try simp only [zJ, zK, Nat.reduceEqDiff, ↓reduceIte])
 refine ⟨(2 * r + 1, Go.Sort.swp dk (f + r) (f + (2 * r + 1))), ⟨by omega, by simp [Go.Sort.size_swp, hs], by rw [← hO]; exact (sift_L1 (lt := z7) (hi := hi) (f := f) (r := r) (d := dk) (by omega) (by rintro ⟨h1, h2⟩; rcases hc2 with h | h; omega; rw [h] at h2; cases h2) hc4).symm⟩, by omega, ⟨rfl, rfl, rfl, vint (by omega), trivial⟩, (by simp only [e1, e2]), (by trivial)⟩
set_option maxRecDepth 100000
theorem C109i {u : Value} {d : Array Piece} {l h g : Int} (lo hi f : Nat) (e1 : l = lo) (e2 : h = hi) (e3 : g = f) (hlo : lo ≤ 1000) (hb : f + hi ≤ d.size) (hl : d.size ≤ 1000) : Fn Tryz.prog 109 [srt u d] [.agg (dataW u), .v (.int .i64 l), .v (.int .i64 h), .v (.int .i64 g)] [] [srt u (Go.Sort.siftDown z7 hi f lo d)] := by
 subst e1 e2 e3; exact C109 hlo hb hl
theorem en109 : zW Tryz.prog 109 := enters_of Tryz.func109 (by kernel_rfl) rfl
theorem C96 {u : Value} {d : Array Piece} {a b : Nat} (hab : a < b) (hb : b ≤ d.size) (hl : d.size ≤ 1000) : Fn Tryz.prog 96 [srt u d] [.agg (dataW u), .v (.int .i64 a), .v (.int .i64 b)] [] [srt u (Go.Sort.heapSort z7 d a b)] := by
 refine Spec.body Tryz.func96 rfl Tryz.ntmps96 (by simp) rfl ?_; intro S0 own0 v0 w0
 refine zA fun K hK => zB ?_
 refine yB (yL rfl rfl rfl sz114 rfl) ?_; simp only [nA, Nat.reduceBEq, Nat.reduceEqDiff, ↓reduceIte]
 refine zE (hK _ ?_); clear hK K; try simp only [nA, Nat.reduceBEq, Nat.reduceEqDiff, ↓reduceIte, Nat.reduceAdd, Nat.reduceSub]
 refine zA fun K hK => zB ?_
 refine zF (zC rfl rfl) ?_; simp only [nA, ↓reduceIte]
 refine zF (zD rfl rfl) ?_; simp only [nA]
 refine zE (hK _ ?_); clear hK K
 refine zA fun K hK => zB ?_
 refine zF (zD rfl rfl) ?_; try simp only [nA, Nat.reduceBEq, Nat.reduceEqDiff, ↓reduceIte, Nat.reduceAdd, Nat.reduceSub]
 refine zE (hK _ ?_); clear hK K
 refine zA fun K hK => zB ?_
 refine zF (zC rfl rfl) ?_; simp only [nA, ↓reduceIte]
 refine zF (zC rfl rfl) ?_; simp only [nA, ↓reduceIte]
 (refine zF (op_subi rfl rfl rfl (by omega)) ?_); try simp only [nA, Nat.reduceBEq, Nat.reduceEqDiff, ↓reduceIte, Nat.reduceAdd, Nat.reduceSub]
 refine zF (zD rfl rfl) ?_; simp only [nA]
 refine zE (hK _ ?_); clear hK K
 refine zA fun K hK => ?_
 refine zA fun K hK => zB ?_
 refine zF (zC rfl rfl) ?_; simp only [nA]
 (refine zF (op_subi rfl rfl rfl (by omega)) ?_); try simp only [nA, Nat.reduceBEq, Nat.reduceEqDiff, ↓reduceIte, Nat.reduceAdd, Nat.reduceSub]
 (refine zF (op_quoi rfl rfl rfl (by omega)) ?_); try simp only [nA, Nat.reduceBEq, Nat.reduceEqDiff, ↓reduceIte, Nat.reduceAdd, Nat.reduceSub]
 refine zF (zD rfl rfl) ?_; simp only [nA]
 refine zE (hK _ ?_); clear hK K
 refine zP ?_
 refine yG (fun (q : Nat × Array Piece) => [(3, .ptr 1 1 0 0), (6, .v (.int .i64 a)), (7, .v (.int .i64 0)), (8, .v (.int .i64 ((b - a : Nat) : Int))), (9, .v (.int .i64 ((q.1 : Nat) - 1 : Int)))]) (fun q => ⟨[(0, srt u q.2), (1, .own 114 [dataW u])], 2⟩) (fun q => q.1 ≤ (b - a - 1) / 2 + 1 ∧ q.2.size = d.size ∧ Go.Sort.heapBuild z7 (b - a) a q.1 q.2 = Go.Sort.heapBuild z7 (b - a) a ((b - a - 1) / 2 + 1) d) (fun q => q.1) ((b - a - 1) / 2 + 1, d) ⟨by omega, rfl, rfl⟩ ⟨rfl, rfl, rfl, vint (by omega), vint (by omega), trivial⟩ rfl ?_; rintro ⟨k, dk⟩ ρ ⟨hk, hs, hO⟩; dsimp only at hk hs hO ⊢; simp only [updL]
 refine zA fun K hK => ?_
 refine zA fun K hK => zB ?_
 refine zF (zC rfl rfl) ?_; simp only [nA, ↓reduceIte]
 refine zF (op_geq rfl rfl rfl) ?_; try simp only [nA, Nat.reduceBEq, Nat.reduceEqDiff, ↓reduceIte, Nat.reduceAdd, Nat.reduceSub]
 refine zE (hK _ ?_); clear hK K
 refine zL rfl rfl rfl (fun hc => ?_) (fun hc => ?_)
 ·
  (try simp only [zY] at hc); have hc1 := hc; have hk0 : 0 < k := by omega
  refine zN ?_
  refine hK _ ?_; clear hK K
  refine zA fun K hK => zP ?_
  refine zB ?_
  (refine awR (zI rfl rfl rfl rfl ag114 sz114 (bl rfl) rfl) ?_); try simp only [nA, Nat.reduceBEq, Nat.reduceEqDiff, ↓reduceIte, Nat.reduceAdd, Nat.reduceSub]
  refine zF (zC rfl rfl) ?_; simp only [nA, ↓reduceIte]
  refine zF (zC rfl rfl) ?_; simp only [nA, ↓reduceIte]
  refine zF (zC rfl rfl) ?_; simp only [nA, ↓reduceIte]
  refine yB (op_callN (r := 0) rfl en109 (C109i (d := dk) (k - 1) (b - a) a (by omega) (by omega) (by omega) (by omega) (by omega) (by omega)) rfl (RL.cons (.base (.same rfl)) (RL.cons (.base (.same rfl)) (RL.cons (.base (.same rfl)) (RL.cons (.base (.same rfl)) RL.nil)))) ⟨_, _, _, _, rfl, rfl⟩ rfl rfl rfl) ?_; try simp only [nA, Nat.reduceBEq, Nat.reduceEqDiff, ↓reduceIte, Nat.reduceAdd, Nat.reduceSub]
  refine zE ?_
  (try simp only [zJ, zK, Nat.reduceEqDiff, ↓reduceIte])
  refine hK _ ?_; clear hK K
  refine zB ?_
  refine zF (zC rfl rfl) ?_; simp only [nA, ↓reduceIte]
  (refine zF (op_subi rfl rfl rfl (by omega)) ?_); try simp only [nA, Nat.reduceBEq, Nat.reduceEqDiff, ↓reduceIte, Nat.reduceAdd, Nat.reduceSub]
  refine zF (zD rfl rfl) ?_; simp only [nA]
  skip
  refine zE ?_
  refine ⟨(k - 1, Go.Sort.siftDown z7 (b - a) a (k - 1) dk), ⟨by omega, by rw [size_sift _ _ _ rfl, hs], ?_⟩, by omega, ⟨rfl, rfl, rfl, rfl, vint (by omega), trivial⟩, rfl, (by rfl)⟩; rw [← hO]; obtain ⟨k, rfl⟩ : ∃ q, k = q + 1 := ⟨k - 1, by omega⟩; rfl
 (try simp only [zY] at hc); have hc1 := hc; have hk0 : k = 0 := (by omega); subst hk0
 refine yI ?_; try simp only [zJ, zK, Nat.reduceEqDiff, ↓reduceIte]
 clear hK K
 refine hK _ ?_; clear hK K
 refine zA fun K hK => zB ?_
 refine zF (zC rfl rfl) ?_; simp only [nA, ↓reduceIte]
 (refine zF (op_subi rfl rfl rfl (by omega)) ?_); try simp only [nA, Nat.reduceBEq, Nat.reduceEqDiff, ↓reduceIte, Nat.reduceAdd, Nat.reduceSub]
 refine zF (zD rfl rfl) ?_; simp only [nA]
 refine zE (hK _ ?_); clear hK K
 refine zP ?_
 refine yG (fun (q : Nat × Array Piece) => [(3, .ptr 1 1 0 0), (6, .v (.int .i64 a)), (7, .v (.int .i64 0)), (8, .v (.int .i64 ((b - a : Nat) : Int))), (10, .v (.int .i64 ((q.1 : Nat) - 1 : Int)))]) (fun q => ⟨[(0, srt u q.2), (1, .own 114 [dataW u])], 2⟩) (fun q => q.1 ≤ b - a ∧ q.2.size = d.size ∧ Go.Sort.heapPop z7 a q.1 q.2 = Go.Sort.heapSort z7 d a b) (fun q => q.1) (b - a, dk) ⟨by omega, hs, by unfold Go.Sort.heapSort; rw [← hO]; rfl⟩ ⟨rfl, rfl, rfl, rfl, vint (by omega), trivial⟩ rfl ?_; rintro ⟨m, dm⟩ ρ ⟨hm, hs2, hP⟩; dsimp only at hm hs2 hP ⊢; simp only [updL]
 refine zA fun K hK => ?_
 refine zA fun K hK => zB ?_
 refine zF (zC rfl rfl) ?_; simp only [nA, ↓reduceIte]
 refine zF (op_geq rfl rfl rfl) ?_; try simp only [nA, Nat.reduceBEq, Nat.reduceEqDiff, ↓reduceIte, Nat.reduceAdd, Nat.reduceSub]
 refine zE (hK _ ?_); clear hK K
 refine zL rfl rfl rfl (fun hc => ?_) (fun hc => ?_)
 ·
  (try simp only [zY] at hc); have hc2 := hc; have hm0 : 0 < m := by omega
  refine zN ?_
  refine hK _ ?_; clear hK K
  refine zA fun K hK => zP ?_
  refine zA fun K hK => zB ?_
  (refine zF (zH rfl rfl rfl fl114_1 (by exact sz2) (by decide) rfl) ?_); try simp only [nA, Nat.reduceBEq, Nat.reduceEqDiff, ↓reduceIte, Nat.reduceAdd, Nat.reduceSub]
  (refine awR (zG rfl rfl rfl rfl ag108 rfl rfl) ?_); try simp only [nA, Nat.reduceBEq, Nat.reduceEqDiff, ↓reduceIte, Nat.reduceAdd, Nat.reduceSub]
  refine zF (zC rfl rfl) ?_; simp only [nA, ↓reduceIte]
  refine zF (zC rfl rfl) ?_; simp only [nA, ↓reduceIte]
  refine zF (zC rfl rfl) ?_; simp only [nA, ↓reduceIte]
  (refine zF (zR rfl rfl rfl (by omega)) ?_); try simp only [nA, Nat.reduceBEq, Nat.reduceEqDiff, ↓reduceIte, Nat.reduceAdd, Nat.reduceSub]
  refine yB (op_sw (r := 0) (d := dm) rfl rfl rfl rfl rfl (by omega) (by omega) rfl) ?_; try simp only [nA, Nat.reduceBEq, Nat.reduceEqDiff, ↓reduceIte, Nat.reduceAdd, Nat.reduceSub]
  refine zE (hK _ ?_); clear hK K
  refine zB ?_
  (refine awR (zI rfl rfl rfl rfl ag114 sz114 (bl rfl) rfl) ?_); try simp only [nA, Nat.reduceBEq, Nat.reduceEqDiff, ↓reduceIte, Nat.reduceAdd, Nat.reduceSub]
  refine zF (zC rfl rfl) ?_; simp only [nA, ↓reduceIte]
  refine zF (zC rfl rfl) ?_; simp only [nA, ↓reduceIte]
  refine zF (zC rfl rfl) ?_; simp only [nA, ↓reduceIte]
  refine yB (op_callN (r := 0) rfl en109 (C109i (d := Go.Sort.swp dm ((a : Int)).toNat ((a : Int) + ((m : Int) - 1)).toNat) 0 (m - 1) a (by omega) (by omega) (by omega) (by omega) (by rw [Go.Sort.size_swp]; omega) (by rw [Go.Sort.size_swp]; omega)) rfl (RL.cons (.base (.same rfl)) (RL.cons (.base (.same rfl)) (RL.cons (.base (.same rfl)) (RL.cons (.base (.same rfl)) RL.nil)))) ⟨_, _, _, _, rfl, rfl⟩ rfl rfl rfl) ?_; try simp only [nA, Nat.reduceBEq, Nat.reduceEqDiff, ↓reduceIte, Nat.reduceAdd, Nat.reduceSub]
  refine zE ?_
  (try simp only [zJ, zK, Nat.reduceEqDiff, ↓reduceIte])
  refine hK _ ?_; clear hK K
  refine zB ?_
  refine zF (zC rfl rfl) ?_; simp only [nA, ↓reduceIte]
  (refine zF (op_subi rfl rfl rfl (by omega)) ?_); try simp only [nA, Nat.reduceBEq, Nat.reduceEqDiff, ↓reduceIte, Nat.reduceAdd, Nat.reduceSub]
  refine zF (zD rfl rfl) ?_; simp only [nA]
  skip
  refine zE ?_
  refine ⟨(m - 1, Go.Sort.siftDown z7 (m - 1) a 0 (Go.Sort.swp dm a (a + (m - 1)))), ⟨by omega, by rw [size_sift _ _ _ rfl, Go.Sort.size_swp, hs2], ?_⟩, by omega, ⟨rfl, rfl, rfl, rfl, vint (by omega), trivial⟩, (by rw [show ((a : Int)).toNat = a by omega, show ((a : Int) + ((m : Int) - 1)).toNat = a + (m - 1) by omega]), (by rfl)⟩; rw [← hP]; obtain ⟨m, rfl⟩ : ∃ q, m = q + 1 := ⟨m - 1, by omega⟩; rfl
 (try simp only [zY] at hc); have hc2 := hc; have hm0 : m = 0 := (by omega); subst hm0
 refine yI ?_; try simp only [zJ, zK, Nat.reduceEqDiff, ↓reduceIte]
 clear hK K
 rw [← hP]; exact RQ.of (.inr rfl) rfl .nil (by simp) rfl (one_out rfl)
end Go.Proofs.YtmdohphcolffmaaGreat
namespace Go.Proofs.YtmdohphcolffmaaGreat
set_option maxHeartbeats 8000000
open Go.RowKit Go.Shelf
section
open Go.Sort
theorem Fn.ofK {f : FuncId} {u : Value} {d d' : Array Piece} {x y : Value} (h0 : 0 < d.size) (hs : d'.size = d.size)
   (hK : ∀ (w : World) (blk c : Nat) (lb : Array Value), u = .slice (some ⟨blk, 0, none⟩) d.size c → HoldsK encP 5 w blk 0 d → blk < w.heap.size →
     Calls Tryz.prog f #[.agg #[.func (.func 48) #[] lb, .func (.func 92) #[] #[.slice (some ⟨blk, 0, none⟩) d.size c, th41]], x, y] w fun e w' => e = .returned (.tuple #[]) ∧ ∃ n os, w' = sortWorldK encP 5 w blk 0 n d' os) :
   Fn Tryz.prog f [srt u d] [.agg (dataW u), .v x, .v y] [] [srt u d'] := by
 intro w S vals bss vs hc
 obtain ⟨v, rfl⟩ : ∃ v, vals = [v] := by
   match vals, hc.nv with
   | [v], _ => exact ⟨v, rfl⟩
 obtain ⟨bs, rfl⟩ : ∃ b, bss = [b] := by
   match bss, hc.nb with
   | [b], _ => exact ⟨b, rfl⟩
 have hrep := hc.rep 0 _ v bs rfl rfl rfl
 have hnm : v = u ∧ Rep Tryz.prog S w bs u (.own 35 (rowsP d)) := by
   cases hrep with
   | nm h => exact ⟨rfl, h⟩
 obtain ⟨rfl, hr1⟩ := hnm
 obtain ⟨g, cap, cur, hu, hg, c1, c2, c3, c4, hbs⟩ := repK_inv (enc := encP) (k := 5) (ds := d.toList) (fun _ => rfl) hr1 sz35 (by simpa using h0)
 subst hbs
 obtain ⟨v1, v2, v3, rfl⟩ : ∃ v1 v2 v3, vs = [v1, v2, v3] := by
   match vs, hc.args.1 with
   | [v1, v2, v3], _ => exact ⟨v1, v2, v3, rfl⟩
 obtain ⟨us, rfl, rl⟩ := (show ∃ us, v1 = .agg us ∧ RL (RefOK Tryz.prog S w (insT [srt v d]) [v]) us.toList (dataW v) from hc.args.2 0 v1 _ rfl rfl)
 have e2 : v2 = x := (show Rep Tryz.prog S w [] v2 (.v x) from hc.args.2 1 v2 _ rfl rfl).v_inv.1
 have e3 : v3 = y := (show Rep Tryz.prog S w [] v3 (.v y) from hc.args.2 2 v3 _ rfl rfl).v_inv.1
 subst e2 e3
 obtain ⟨us, rfl⟩ : ∃ l : List Value, us = l.toArray := ⟨us.toList, by simp⟩
 simp only [List.toList_toArray] at rl
 obtain ⟨f1, f2, rfl⟩ : ∃ f1 f2, us = [f1, f2] := by
   match us, rl.1 with
   | [f1, f2], _ => exact ⟨f1, f2, rfl⟩
 obtain ⟨lb, rfl, -, -⟩ := (show Rep Tryz.prog S w [] f1 (.clo 48 [.rop [.v v]]) from rl.2 0 f1 _ rfl rfl).clo_inv
 obtain ⟨sb, rfl, sl, sr⟩ := (show Rep Tryz.prog S w [] f2 (.clo 92 [.v v, .v th41]) from rl.2 1 f2 _ rfl rfl).clo_inv
 obtain ⟨s1, s2, rfl⟩ : ∃ s1 s2, sb = [s1, s2] := by
   match sb, sl with
   | [s1, s2], _ => exact ⟨s1, s2, rfl⟩
 have e4 := (sr 0 s1 (.v v) rfl rfl).v_inv.1
 have e5 := (sr 1 s2 (.v th41) rfl rfl).v_inv.1
 subst e4 e5
 have hld : d.toList.length = d.size := Array.length_toList
 rw [hld] at hu c1 c4
 subst hu
 have hH : HoldsK encP 5 w g 0 d := by
   have := holdsKE (enc := encP) (k := 5) (ds := d.toList) (fun _ => rfl) hg (by rw [hld]; exact c4)
   simpa using this
 have hlt : g < w.heap.size := (Array.getElem?_eq_some_iff.1 hg).1
 refine (hK w g cap lb.toArray rfl hH hlt).mono ?_
 rintro e w' ⟨rfl, n, os, rfl⟩
 have hin : ∀ q, InL [[g]] q ↔ q = g := fun q => by
   constructor
   · rintro ⟨i, b1, h1, h2⟩
     cases i with
     | zero => simp at h1; subst h1; simpa using h2
     | succ i => simp at h1
   rintro rfl; exact ⟨0, [q], rfl, by simp⟩
 have hkept : Kept (fun q => q ≠ g) w (sortWorldK encP 5 w g 0 n d' os) := keptE (enc := id) (flatK encP 5 d')
 have hhp := heapE (enc := id) (n := n) (os := os) (flatK encP 5 d') hg
 have hld' : d'.toList.length = d'.size := Array.length_toList
 refine ⟨[], [], [srt (.slice (some ⟨g, 0, none⟩) d.size cap) d'], [], [[g]], rfl, ⟨hkept.mono fun q _ h e => h ((hin q).2 e), rfl, rfl, rfl, rfl, fun i u y bs h => by simp at h, fun r x v bs h1 h2 h3 => ?_, ⟨fun r b h => ?_, fun r r' b b' hne h1 h2 => ?_⟩, fun b h => .inr h⟩, rfl, rfl⟩
 · cases r with
   | succ r => simp at h1
   | zero =>
     simp at h1 h2 h3
     subst h1 h2 h3
     have ht := takeKE (enc := encP) (k := 5) (fun _ => rfl) cur d'.toList (by rw [hld', hs, c3]; omega)
     have := repK (enc := encP) (k := 5) (P := Tryz.prog) (S := After S w (sortWorldK encP 5 w g 0 n d' os) [[g]] ([] ++ [[g]])) (w := sortWorldK encP 5 w g 0 n d' os) (e := 35) (ds := d'.toList) (fun _ => rfl) one_encP sz35 hhp (by rw [hld', hs]; exact c1) c2 (by simp [putCells, c3]) (by simpa using ht)
     rw [hld', hs] at this
     exact .nm this
 · cases r with
   | zero => simp at h; subst h; simp
   | succ r => simp at h
 cases r with
 | zero => cases r' with
   | zero => exact absurd rfl hne
   | succ r' => simp at h2
 | succ r => simp at h1
end
end Go.Proofs.YtmdohphcolffmaaGreat
namespace Go.Proofs.YtmdohphcolffmaaGreat
set_option maxHeartbeats 8000000
open Go.RowKit Go.Shelf
def laysGg6_ren : Go.Shelf.Ren := ⟨fun | 6 => 47 | 10 => 68 | 11 => 69 | 12 => 70 | 13 => 71 | 14 => 72 | 24 => 93 | 25 => 94 | 26 => 95 | 27 => 96 | 28 => 97 | 29 => 98 | 30 => 99 | 31 => 100 | 32 => 101 | 33 => 102 | 34 => 109 | 35 => 110 | 36 => 111 | 37 => 112 | 38 => 113 | 39 => 118 | n => n, fun | 20 => 20 | 26 => 87 | 35 => 106 | 0 => 0 | 37 => 108 | 3 => 3 | 41 => 111 | 44 => 114 | 49 => 125 | 51 => 127 | 4 => 4 | 54 => 130 | 53 => 129 | 58 => 78 | 5 => 5 | 9 => 9 | 60 => 138 | 64 => 142 | 66 => 146 | 67 => 147 | 17 => 17 | 32 => 103 | 33 => 104 | 82 => 164 | 12 => 12 | 75 => 157 | 76 => 158 | 77 => 159 | 78 => 160 | 79 => 161 | 80 => 162 | n => n, fun | n => n⟩
theorem laysGg6 : Go.Proofs.LaysGg.n6 Tryz.prog laysGg6_ren := {
 mixed := by kernel_rfl
 f6 := Tryz.func47.trans (congrArg some (by kernel_rfl))
 f10 := Tryz.func68.trans (congrArg some (by kernel_rfl))
 f11 := Tryz.func69.trans (congrArg some (by kernel_rfl))
 f12 := Tryz.func70.trans (congrArg some (by kernel_rfl))
 f13 := Tryz.func71.trans (congrArg some (by kernel_rfl))
 f14 := Tryz.func72.trans (congrArg some (by kernel_rfl))
 f24 := Tryz.func93.trans (congrArg some (by kernel_rfl))
 f25 := Tryz.func94.trans (congrArg some (by kernel_rfl))
 f26 := Tryz.func95.trans (congrArg some (by kernel_rfl))
 f27 := Tryz.func96.trans (congrArg some (by kernel_rfl))
 f28 := Tryz.func97.trans (congrArg some (by kernel_rfl))
 f29 := Tryz.func98.trans (congrArg some (by kernel_rfl))
 f30 := Tryz.func99.trans (congrArg some (by kernel_rfl))
 f31 := Tryz.func100.trans (congrArg some (by kernel_rfl))
 f32 := Tryz.func101.trans (congrArg some (by kernel_rfl))
 f33 := Tryz.func102.trans (congrArg some (by kernel_rfl))
 f34 := Tryz.func109.trans (congrArg some (by kernel_rfl))
 f35 := Tryz.func110.trans (congrArg some (by kernel_rfl))
 f36 := Tryz.func111.trans (congrArg some (by kernel_rfl))
 f37 := Tryz.func112.trans (congrArg some (by kernel_rfl))
 f38 := Tryz.func113.trans (congrArg some (by kernel_rfl))
 f39 := Tryz.func118.trans (congrArg some (by kernel_rfl))
 t0 := Tryz.underlying0
 a0 := Tryz.isAgg0
 z0 := Tryz.sizeOf0
 v0 := Tryz.zeroValue0
 i0 := by kernel_rfl
 t3 := Tryz.underlying3
 a3 := Tryz.isAgg3
 z3 := Tryz.sizeOf3
 v3 := Tryz.zeroValue3
 i3 := by kernel_rfl
 t4 := Tryz.underlying4
 a4 := Tryz.isAgg4
 z4 := Tryz.sizeOf4
 v4 := Tryz.zeroValue4
 i4 := by kernel_rfl
 t5 := Tryz.underlying5
 a5 := Tryz.isAgg5
 z5 := Tryz.sizeOf5
 v5 := Tryz.zeroValue5
 i5 := by kernel_rfl
 t9 := Tryz.underlying9
 a9 := Tryz.isAgg9
 z9 := Tryz.sizeOf9
 v9 := Tryz.zeroValue9
 i9 := by kernel_rfl
 t12 := Tryz.underlying12
 a12 := Tryz.isAgg12
 z12 := Tryz.sizeOf12
 v12 := Tryz.zeroValue12
 i12 := by kernel_rfl
 t17 := Tryz.underlying17
 a17 := Tryz.isAgg17
 z17 := Tryz.sizeOf17
 v17 := Tryz.zeroValue17
 i17 := by kernel_rfl
 t20 := Tryz.underlying20
 a20 := Tryz.isAgg20
 z20 := Tryz.sizeOf20
 v20 := Tryz.zeroValue20
 i20 := by kernel_rfl
 t26 := Tryz.underlying87
 a26 := Tryz.isAgg87
 z26 := Tryz.sizeOf87
 v26 := Tryz.zeroValue87
 i26 := by kernel_rfl
 t32 := Tryz.underlying103
 a32 := Tryz.isAgg103
 z32 := Tryz.sizeOf103
 v32 := Tryz.zeroValue103
 i32 := by kernel_rfl
 t33 := Tryz.underlying104
 a33 := Tryz.isAgg104
 z33 := Tryz.sizeOf104
 v33 := Tryz.zeroValue104
 i33 := by kernel_rfl
 t35 := Tryz.underlying106
 a35 := Tryz.isAgg106
 z35 := Tryz.sizeOf106
 v35 := Tryz.zeroValue106
 i35 := by kernel_rfl
 t37 := Tryz.underlying108
 a37 := Tryz.isAgg108
 z37 := Tryz.sizeOf108
 v37 := Tryz.zeroValue108
 i37 := by kernel_rfl
 t41 := Tryz.underlying111
 a41 := Tryz.isAgg111
 z41 := Tryz.sizeOf111
 v41 := Tryz.zeroValue111
 i41 := by kernel_rfl
 t44 := Tryz.underlying114
 a44 := Tryz.isAgg114
 z44 := Tryz.sizeOf114
 v44 := Tryz.zeroValue114
 i44 := by kernel_rfl
 t49 := Tryz.underlying125
 a49 := Tryz.isAgg125
 z49 := Tryz.sizeOf125
 v49 := Tryz.zeroValue125
 i49 := by kernel_rfl
 t51 := Tryz.underlying127
 a51 := Tryz.isAgg127
 z51 := Tryz.sizeOf127
 v51 := Tryz.zeroValue127
 i51 := by kernel_rfl
 t53 := Tryz.underlying129
 a53 := Tryz.isAgg129
 z53 := Tryz.sizeOf129
 v53 := Tryz.zeroValue129
 i53 := by kernel_rfl
 t54 := Tryz.underlying130
 a54 := Tryz.isAgg130
 z54 := Tryz.sizeOf130
 v54 := Tryz.zeroValue130
 i54 := by kernel_rfl
 t58 := Tryz.underlying78
 a58 := Tryz.isAgg78
 z58 := Tryz.sizeOf78
 v58 := Tryz.zeroValue78
 i58 := by kernel_rfl
 t60 := Tryz.underlying138
 a60 := Tryz.isAgg138
 z60 := Tryz.sizeOf138
 v60 := Tryz.zeroValue138
 i60 := by kernel_rfl
 t64 := Tryz.underlying142
 a64 := Tryz.isAgg142
 z64 := Tryz.sizeOf142
 v64 := Tryz.zeroValue142
 i64 := by kernel_rfl
 t66 := Tryz.underlying146
 a66 := Tryz.isAgg146
 z66 := Tryz.sizeOf146
 v66 := Tryz.zeroValue146
 i66 := by kernel_rfl
 t67 := Tryz.underlying147
 a67 := Tryz.isAgg147
 z67 := Tryz.sizeOf147
 v67 := Tryz.zeroValue147
 i67 := by kernel_rfl
 t75 := Tryz.underlying157
 a75 := Tryz.isAgg157
 z75 := Tryz.sizeOf157
 v75 := Tryz.zeroValue157
 i75 := by kernel_rfl
 t76 := Tryz.underlying158
 a76 := Tryz.isAgg158
 z76 := Tryz.sizeOf158
 v76 := Tryz.zeroValue158
 i76 := by kernel_rfl
 t77 := Tryz.underlying159
 a77 := Tryz.isAgg159
 z77 := Tryz.sizeOf159
 v77 := Tryz.zeroValue159
 i77 := by kernel_rfl
 t78 := Tryz.underlying160
 a78 := Tryz.isAgg160
 z78 := Tryz.sizeOf160
 v78 := Tryz.zeroValue160
 i78 := by kernel_rfl
 t79 := Tryz.underlying161
 a79 := Tryz.isAgg161
 z79 := Tryz.sizeOf161
 v79 := Tryz.zeroValue161
 i79 := by kernel_rfl
 t80 := Tryz.underlying162
 a80 := Tryz.isAgg162
 z80 := Tryz.sizeOf162
 v80 := Tryz.zeroValue162
 i80 := by kernel_rfl
 t82 := Tryz.underlying164
 a82 := Tryz.isAgg164
 z82 := Tryz.sizeOf164
 v82 := Tryz.zeroValue164
 i82 := by kernel_rfl }
theorem C99 {u : Value} {d : Array Piece} {a b : Nat} (h0 : 0 < d.size) (hab : a ≤ b) (hb : b ≤ d.size) (hl : d.size ≤ 1000) : Fn Tryz.prog 99 [srt u d] [.agg (dataW u), .v (.int .i64 a), .v (.int .i64 b)] [] [srt u (Go.Sort.reverseRange d a b)] :=
 Fn.ofK h0 (Go.Sort.reverseRange_holds d a b hab hb).1 fun w blk c lb hu hH hblk => Any.reverseRange_func_cells_w { laysGg6 with } encP 5 (fun _ => rfl) (.func 48) #[] lb 92 _ blk 0 a b d w (swp71 blk d.size c) hH hblk hab hb (by omega)
theorem C97 {u : Value} {d : Array Piece} {a b : Nat} (h0 : 0 < d.size) (hab : a ≤ b) (hb : b ≤ d.size) (hl : d.size ≤ 1000) : Fn Tryz.prog 97 [srt u d] [.agg (dataW u), .v (.int .i64 a), .v (.int .i64 b)] [] [srt u (Go.Sort.breakPatterns d a b)] :=
 Fn.ofK h0 (Go.Sort.breakPatterns_holds d a b hab hb).1 fun w blk c lb hu hH hblk => Any.breakPatterns_func_cells_w { laysGg6 with } encP 5 (fun _ => rfl) (.func 48) #[] lb 92 _ blk 0 a b d w (swp71 blk d.size c) hH hblk hab hb (by omega)
end Go.Proofs.YtmdohphcolffmaaGreat
namespace Go.Proofs.YtmdohphcolffmaaGreat
set_option maxHeartbeats 8000000
open Go.RowKit
set_option linter.unusedSimpArgs false
set_option linter.unusedVariables false
set_option maxRecDepth 100000
theorem C118 {u : Value} {d : Array Piece} {a b s : Nat} (ha : a < d.size) (hb : b < d.size) (hl : d.size ≤ 1000) (hs : s ≤ 1000) : Fn Tryz.prog 118 [.own 3 [[.v (.int .i64 s)]]] [.agg (dataR d u), .v (.int .i64 a), .v (.int .i64 b), .ptr 0 0 0 0] [.v (.int .i64 (Go.Sort.order2 z7 d a b s).1), .v (.int .i64 (Go.Sort.order2 z7 d a b s).2.1)] [.own 3 [[.v (.int .i64 (Go.Sort.order2 z7 d a b s).2.2)]]] := by
 refine Spec.body Tryz.func118 rfl Tryz.ntmps118 (by simp) rfl ?_; intro S0 own0 v0 w0
 refine zA fun K hK => zB ?_
 refine yB (yL rfl rfl rfl sz114 rfl) ?_; simp only [nA, Nat.reduceBEq, Nat.reduceEqDiff, ↓reduceIte]
 refine zF (zD rfl rfl) ?_; try simp only [nA, Nat.reduceBEq, Nat.reduceEqDiff, ↓reduceIte, Nat.reduceAdd, Nat.reduceSub]
 refine zF (zD rfl rfl) ?_; try simp only [nA, Nat.reduceBEq, Nat.reduceEqDiff, ↓reduceIte, Nat.reduceAdd, Nat.reduceSub]
 refine zE (hK _ ?_); clear hK K; try simp only [nA, Nat.reduceBEq, Nat.reduceEqDiff, ↓reduceIte, Nat.reduceAdd, Nat.reduceSub]
 refine zA fun K hK => ?_
 refine zA fun K hK => zB ?_
 (refine zF (zH rfl rfl rfl fl114_0 (by exact sz2) (by decide) rfl) ?_); try simp only [nA, Nat.reduceBEq, Nat.reduceEqDiff, ↓reduceIte, Nat.reduceAdd, Nat.reduceSub]
 (refine awR (zG rfl rfl rfl rfl ag87 rfl rfl) ?_); try simp only [nA, Nat.reduceBEq, Nat.reduceEqDiff, ↓reduceIte, Nat.reduceAdd, Nat.reduceSub]
 refine zF (zC rfl rfl) ?_; simp only [nA, ↓reduceIte]
 refine zF (zC rfl rfl) ?_; simp only [nA, ↓reduceIte]
 refine yB (OpQ.j (op_ltR (d := d) rfl rfl rfl rfl hl (by omega) (by omega))) ?_; try simp only [nA, Nat.reduceBEq, Nat.reduceEqDiff, ↓reduceIte, Nat.reduceAdd, Nat.reduceSub]
 refine zE (hK _ ?_); clear hK K
 refine zL rfl rfl rfl (fun hc => ?_) (fun hc => ?_)
 ·
  (try simp only [zY] at hc); have hc1 := hc; simp only [Int.toNat_natCast] at hc
  refine zA fun K hK => zB ?_
  refine zF (zC rfl rfl) ?_; simp only [nA, ↓reduceIte]
  (refine zF (op_nil_slot rfl rfl rfl) ?_); try simp only [nA, Nat.reduceBEq, Nat.reduceEqDiff, ↓reduceIte, Nat.reduceAdd, Nat.reduceSub]
  (refine awR (zG rfl rfl rfl rfl ag3 rfl rfl) ?_); try simp only [nA, Nat.reduceBEq, Nat.reduceEqDiff, ↓reduceIte, Nat.reduceAdd, Nat.reduceSub]
  (refine zF (zR rfl rfl rfl (by omega)) ?_); try simp only [nA, Nat.reduceBEq, Nat.reduceEqDiff, ↓reduceIte, Nat.reduceAdd, Nat.reduceSub]
  (refine zF (op_nil_slot rfl rfl rfl) ?_); try simp only [nA, Nat.reduceBEq, Nat.reduceEqDiff, ↓reduceIte, Nat.reduceAdd, Nat.reduceSub]
  refine yB (z8 rfl rfl rfl rfl rfl rfl sz3 rfl (bl rfl) rfl) ?_; simp only [nA, ↓reduceIte]
  refine zE (hK _ ?_); clear hK K
  refine zA fun K hK => zB ?_
  refine zF (zC rfl rfl) ?_; simp only [nA, ↓reduceIte]
  refine zF (zC rfl rfl) ?_; simp only [nA, ↓reduceIte]
  refine zF (zD rfl rfl) ?_; simp only [nA, ↓reduceIte]
  refine zF (zD rfl rfl) ?_; simp only [nA, ↓reduceIte]
  refine zE (hK _ ?_); clear hK K
  skip
  refine zO ?_; (try simp only [zJ, zK, Nat.reduceEqDiff, ↓reduceIte]); rw [show Go.Sort.order2 z7 d a b s = (b, a, s + 1) by unfold Go.Sort.order2; rw [if_pos hc]]; exact RQ.of (.inl rfl) rfl (.tmp (bl rfl) rfl rfl (.tmp (bl rfl) rfl rfl .nil)) (by simp) rfl (one_out rfl)
 (try simp only [zY] at hc); have hc1 := hc; simp only [Int.toNat_natCast] at hc
 refine zN ?_
 refine hK _ ?_; clear hK K
 refine zA fun K hK => zB ?_
 refine zF (zC rfl rfl) ?_; simp only [nA, ↓reduceIte]
 refine zF (zC rfl rfl) ?_; simp only [nA, ↓reduceIte]
 refine zF (zD rfl rfl) ?_; simp only [nA, ↓reduceIte]
 refine zF (zD rfl rfl) ?_; simp only [nA, ↓reduceIte]
 refine zE (hK _ ?_); clear hK K
 skip
 refine zO ?_; (try simp only [zJ, zK, Nat.reduceEqDiff, ↓reduceIte]); rw [show Go.Sort.order2 z7 d a b s = (a, b, s) by unfold Go.Sort.order2; rw [if_neg (by rw [hc]; decide)]]; exact RQ.of (.inl rfl) rfl (.tmp (bl rfl) rfl rfl (.tmp (bl rfl) rfl rfl .nil)) (by simp) rfl (one_out rfl)
theorem o2b {lt : Piece → Piece → Bool} {d : Array Piece} {a b s n : Nat} (ha : a < n) (hb : b < n) : (Go.Sort.order2 lt d a b s).1 < n ∧ (Go.Sort.order2 lt d a b s).2.1 < n ∧ (Go.Sort.order2 lt d a b s).2.2 ≤ s + 1 := by
 unfold Go.Sort.order2
 split
 · exact ⟨hb, ha, Nat.le_refl _⟩
 exact ⟨ha, hb, Nat.le_succ _⟩
theorem en118 : zW Tryz.prog 118 := enters_of Tryz.func118 (by kernel_rfl) rfl
theorem C113 {u : Value} {d : Array Piece} {a b c s : Nat} (ha : a < d.size) (hb : b < d.size) (hc : c < d.size) (hl : d.size ≤ 1000) (hs : s ≤ 100) : Fn Tryz.prog 113 [.own 3 [[.v (.int .i64 s)]]] [.agg (dataR d u), .v (.int .i64 a), .v (.int .i64 b), .v (.int .i64 c), .ptr 0 0 0 0] [.v (.int .i64 (Go.Sort.median z7 d a b c s).1)] [.own 3 [[.v (.int .i64 (Go.Sort.median z7 d a b c s).2)]]] := by
 have h1 := o2b (lt := z7) (d := d) (s := s) ha hb
 have h2 := o2b (lt := z7) (d := d) (s := (Go.Sort.order2 z7 d a b s).2.2) h1.2.1 hc
 refine Spec.body Tryz.func113 rfl Tryz.ntmps113 (by simp) rfl ?_; intro S0 own0 v0 w0
 refine zA fun K hK => zB ?_
 refine yB (yL rfl rfl rfl sz114 rfl) ?_; simp only [nA, Nat.reduceBEq, Nat.reduceEqDiff, ↓reduceIte]
 refine zF (zD rfl rfl) ?_; try simp only [nA, Nat.reduceBEq, Nat.reduceEqDiff, ↓reduceIte, Nat.reduceAdd, Nat.reduceSub]
 refine zE (hK _ ?_); clear hK K; try simp only [nA, Nat.reduceBEq, Nat.reduceEqDiff, ↓reduceIte, Nat.reduceAdd, Nat.reduceSub]
 refine zA fun K hK => zB ?_
 (refine awR (zI rfl rfl rfl rfl ag114 sz114 (bl rfl) rfl) ?_); try simp only [nA, Nat.reduceBEq, Nat.reduceEqDiff, ↓reduceIte, Nat.reduceAdd, Nat.reduceSub]
 refine zF (zC rfl rfl) ?_; simp only [nA, ↓reduceIte]
 refine zF (zC rfl rfl) ?_; simp only [nA, ↓reduceIte]
 refine zF (zC rfl rfl) ?_; simp only [nA, ↓reduceIte]
 refine yB (yN (r := 0) rfl en118 (C118 (u := u) (s := s) ha hb hl (by omega)) (by exact rfl) (RL.cons (.base (.same (by exact rfl))) (RL.cons (.base (.same (by exact rfl))) (RL.cons (.base (.same (by exact rfl))) (RL.cons .ptr RL.nil)))) (by exact ⟨_, _, _, rfl, rfl, rfl⟩) (by exact rfl) (by exact rfl) (by exact rfl)) ?_; try simp only [nA, Nat.reduceBEq, Nat.reduceEqDiff, ↓reduceIte, Nat.reduceAdd, Nat.reduceSub]
 refine zF (zC rfl rfl) ?_; simp only [nA]
 refine zF (zZ rfl rfl rfl) ?_; try simp only [nA, Nat.reduceBEq, Nat.reduceEqDiff, ↓reduceIte, Nat.reduceAdd, Nat.reduceSub]
 refine zF (zZ rfl rfl rfl) ?_; try simp only [nA, Nat.reduceBEq, Nat.reduceEqDiff, ↓reduceIte, Nat.reduceAdd, Nat.reduceSub]
 refine zF (zD rfl rfl) ?_; simp only [nA, ↓reduceIte]
 refine zF (zD rfl rfl) ?_; simp only [nA, ↓reduceIte]
 refine zE (hK _ ?_); clear hK K
 refine zA fun K hK => zB ?_
 (refine awR (zI rfl rfl rfl rfl ag114 sz114 (bl rfl) rfl) ?_); try simp only [nA, Nat.reduceBEq, Nat.reduceEqDiff, ↓reduceIte, Nat.reduceAdd, Nat.reduceSub]
 refine zF (zC rfl rfl) ?_; simp only [nA, ↓reduceIte]
 refine zF (zC rfl rfl) ?_; simp only [nA, ↓reduceIte]
 refine zF (zC rfl rfl) ?_; simp only [nA, ↓reduceIte]
 refine yB (yN (r := 0) rfl en118 (C118 (u := u) (s := (Go.Sort.order2 z7 d a b s).2.2) h1.2.1 hc hl (by omega)) (by exact rfl) (RL.cons (.base (.same (by exact rfl))) (RL.cons (.base (.same (by exact rfl))) (RL.cons (.base (.same (by exact rfl))) (RL.cons .ptr RL.nil)))) (by exact ⟨_, _, _, rfl, rfl, rfl⟩) (by exact rfl) (by exact rfl) (by exact rfl)) ?_; try simp only [nA, Nat.reduceBEq, Nat.reduceEqDiff, ↓reduceIte, Nat.reduceAdd, Nat.reduceSub]
 refine zF (zC rfl rfl) ?_; simp only [nA]
 refine zF (zZ rfl rfl rfl) ?_; try simp only [nA, Nat.reduceBEq, Nat.reduceEqDiff, ↓reduceIte, Nat.reduceAdd, Nat.reduceSub]
 refine zF (zZ rfl rfl rfl) ?_; try simp only [nA, Nat.reduceBEq, Nat.reduceEqDiff, ↓reduceIte, Nat.reduceAdd, Nat.reduceSub]
 refine zF (zD rfl rfl) ?_; simp only [nA, ↓reduceIte]
 refine zF (zD rfl rfl) ?_; simp only [nA, ↓reduceIte]
 refine zE (hK _ ?_); clear hK K
 refine zA fun K hK => zB ?_
 (refine awR (zI rfl rfl rfl rfl ag114 sz114 (bl rfl) rfl) ?_); try simp only [nA, Nat.reduceBEq, Nat.reduceEqDiff, ↓reduceIte, Nat.reduceAdd, Nat.reduceSub]
 refine zF (zC rfl rfl) ?_; simp only [nA, ↓reduceIte]
 refine zF (zC rfl rfl) ?_; simp only [nA, ↓reduceIte]
 refine zF (zC rfl rfl) ?_; simp only [nA, ↓reduceIte]
 refine yB (yN (r := 0) rfl en118 (C118 (u := u) (s := (Go.Sort.order2 z7 d (Go.Sort.order2 z7 d a b s).2.1 c (Go.Sort.order2 z7 d a b s).2.2).2.2) h1.1 h2.1 hl (by omega)) (by exact rfl) (RL.cons (.base (.same (by exact rfl))) (RL.cons (.base (.same (by exact rfl))) (RL.cons (.base (.same (by exact rfl))) (RL.cons .ptr RL.nil)))) (by exact ⟨_, _, _, rfl, rfl, rfl⟩) (by exact rfl) (by exact rfl) (by exact rfl)) ?_; try simp only [nA, Nat.reduceBEq, Nat.reduceEqDiff, ↓reduceIte, Nat.reduceAdd, Nat.reduceSub]
 refine zF (zC rfl rfl) ?_; simp only [nA]
 refine zF (zZ rfl rfl rfl) ?_; try simp only [nA, Nat.reduceBEq, Nat.reduceEqDiff, ↓reduceIte, Nat.reduceAdd, Nat.reduceSub]
 refine zF (zZ rfl rfl rfl) ?_; try simp only [nA, Nat.reduceBEq, Nat.reduceEqDiff, ↓reduceIte, Nat.reduceAdd, Nat.reduceSub]
 refine zF (zD rfl rfl) ?_; simp only [nA, ↓reduceIte]
 refine zF (zD rfl rfl) ?_; simp only [nA, ↓reduceIte]
 refine zE (hK _ ?_); clear hK K
 refine zA fun K hK => zB ?_
 refine zF (zC rfl rfl) ?_; simp only [nA]
 refine zF (zD rfl rfl) ?_; simp only [nA]
 refine zE (hK _ ?_); clear hK K
 skip
 refine zO ?_; (try simp only [zJ, zK, Nat.reduceEqDiff, ↓reduceIte]); exact RQ.of (.inl rfl) rfl (.tmp (bl rfl) rfl rfl .nil) (by simp) rfl (one_out rfl)
set_option maxRecDepth 100000
theorem C113i {u : Value} {d : Array Piece} {x y z : Int} (a b c s : Nat) (e1 : x = a) (e2 : y = b) (e3 : z = c) (ha : a < d.size) (hb : b < d.size) (hc : c < d.size) (hl : d.size ≤ 1000) (hs : s ≤ 100) : Fn Tryz.prog 113 [.own 3 [[.v (.int .i64 s)]]] [.agg (dataR d u), .v (.int .i64 x), .v (.int .i64 y), .v (.int .i64 z), .ptr 0 0 0 0] [.v (.int .i64 (Go.Sort.median z7 d a b c s).1)] [.own 3 [[.v (.int .i64 (Go.Sort.median z7 d a b c s).2)]]] := by
 subst e1 e2 e3; exact C113 ha hb hc hl hs
theorem en113 : zW Tryz.prog 113 := enters_of Tryz.func113 (by kernel_rfl) rfl
def hintI : Go.Sort.Hint → Int
 | .unknown => 0
 | .increasing => 1
 | .decreasing => 2
theorem medb {lt : Piece → Piece → Bool} {d : Array Piece} {a b c s n : Nat} (ha : a < n) (hb : b < n) (hc : c < n) : (Go.Sort.median lt d a b c s).1 < n ∧ (Go.Sort.median lt d a b c s).2 ≤ s + 3 := by
 have h1 := o2b (lt := lt) (d := d) (s := s) ha hb
 have h2 := o2b (lt := lt) (d := d) (s := (Go.Sort.order2 lt d a b s).2.2) h1.2.1 hc
 have h3 := o2b (lt := lt) (d := d) (s := (Go.Sort.order2 lt d (Go.Sort.order2 lt d a b s).2.1 c (Go.Sort.order2 lt d a b s).2.2).2.2) h1.1 h2.1
 unfold Go.Sort.median
 exact ⟨h3.2.1, by dsimp only; omega⟩
/-- The three places among which the middle one is chosen, and the swaps so far. -/
def nR (lt : Piece → Piece → Bool) (d : Array Piece) (a b : Nat) : Nat × Nat × Nat × Nat :=
 if b - a ≥ 50 then
   ((Go.Sort.medianAdjacent lt d (a + (b - a) / 4 * 1) 0).1,
    (Go.Sort.medianAdjacent lt d (a + (b - a) / 4 * 2) (Go.Sort.medianAdjacent lt d (a + (b - a) / 4 * 1) 0).2).1,
    (Go.Sort.medianAdjacent lt d (a + (b - a) / 4 * 3) (Go.Sort.medianAdjacent lt d (a + (b - a) / 4 * 2) (Go.Sort.medianAdjacent lt d (a + (b - a) / 4 * 1) 0).2).2).1,
    (Go.Sort.medianAdjacent lt d (a + (b - a) / 4 * 3) (Go.Sort.medianAdjacent lt d (a + (b - a) / 4 * 2) (Go.Sort.medianAdjacent lt d (a + (b - a) / 4 * 1) 0).2).2).2)
 else (a + (b - a) / 4 * 1, a + (b - a) / 4 * 2, a + (b - a) / 4 * 3, 0)
theorem nR_pos {lt : Piece → Piece → Bool} {d : Array Piece} {a b : Nat} (h : b - a ≥ 50) : nR lt d a b = ((Go.Sort.medianAdjacent lt d (a + (b - a) / 4 * 1) 0).1,
 (Go.Sort.medianAdjacent lt d (a + (b - a) / 4 * 2) (Go.Sort.medianAdjacent lt d (a + (b - a) / 4 * 1) 0).2).1,
 (Go.Sort.medianAdjacent lt d (a + (b - a) / 4 * 3) (Go.Sort.medianAdjacent lt d (a + (b - a) / 4 * 2) (Go.Sort.medianAdjacent lt d (a + (b - a) / 4 * 1) 0).2).2).1,
 (Go.Sort.medianAdjacent lt d (a + (b - a) / 4 * 3) (Go.Sort.medianAdjacent lt d (a + (b - a) / 4 * 2) (Go.Sort.medianAdjacent lt d (a + (b - a) / 4 * 1) 0).2).2).2) := by unfold nR; rw [if_pos h]
theorem nR_neg {lt : Piece → Piece → Bool} {d : Array Piece} {a b : Nat} (h : ¬ b - a ≥ 50) : nR lt d a b = (a + (b - a) / 4 * 1, a + (b - a) / 4 * 2, a + (b - a) / 4 * 3, 0) := by unfold nR; rw [if_neg h]
theorem mab {lt : Piece → Piece → Bool} {d : Array Piece} {a s n : Nat} (h : a + 1 < n) : (Go.Sort.medianAdjacent lt d a s).1 < n ∧ (Go.Sort.medianAdjacent lt d a s).2 ≤ s + 3 := medb (by omega) (by omega) h
theorem nR_bd {lt : Piece → Piece → Bool} {d : Array Piece} {a b : Nat} (h8 : 8 ≤ b - a) (hb : b ≤ d.size) : (nR lt d a b).1 < d.size ∧ (nR lt d a b).2.1 < d.size ∧ (nR lt d a b).2.2.1 < d.size ∧ (nR lt d a b).2.2.2 ≤ 9 := by
 by_cases h : b - a ≥ 50
 · rw [nR_pos h]
   have h1 := mab (lt := lt) (d := d) (a := a + (b - a) / 4 * 1) (s := 0) (n := d.size) (by omega)
   have h2 := mab (lt := lt) (d := d) (a := a + (b - a) / 4 * 2) (s := (Go.Sort.medianAdjacent lt d (a + (b - a) / 4 * 1) 0).2) (n := d.size) (by omega)
   have h3 := mab (lt := lt) (d := d) (a := a + (b - a) / 4 * 3) (s := (Go.Sort.medianAdjacent lt d (a + (b - a) / 4 * 2) (Go.Sort.medianAdjacent lt d (a + (b - a) / 4 * 1) 0).2).2) (n := d.size) (by omega)
   refine ⟨h1.1, h2.1, h3.1, ?_⟩
   dsimp only
   omega
 rw [nR_neg h]
 refine ⟨?_, ?_, ?_, ?_⟩ <;> dsimp only <;> omega
theorem chooseP {lt : Piece → Piece → Bool} {d : Array Piece} {a b : Nat} (h8 : 8 ≤ b - a) : Go.Sort.choosePivot lt d a b = ((Go.Sort.median lt d (nR lt d a b).1 (nR lt d a b).2.1 (nR lt d a b).2.2.1 (nR lt d a b).2.2.2).1, if (Go.Sort.median lt d (nR lt d a b).1 (nR lt d a b).2.1 (nR lt d a b).2.2.1 (nR lt d a b).2.2.2).2 = 0 then .increasing else if (Go.Sort.median lt d (nR lt d a b).1 (nR lt d a b).2.1 (nR lt d a b).2.2.1 (nR lt d a b).2.2.2).2 = 12 then .decreasing else .unknown) := by
 unfold Go.Sort.choosePivot
 by_cases h : b - a ≥ 50
 · rw [nR_pos h]
   simp only [ge_iff_le, if_pos h8, if_pos (show 50 ≤ b - a from h)]
 rw [nR_neg h]
 simp only [ge_iff_le, if_pos h8, if_neg (show ¬ 50 ≤ b - a from h)]
theorem en112 : zW Tryz.prog 112 := enters_of Tryz.func112 (by kernel_rfl) rfl
theorem C112 {u : Value} {d : Array Piece} {a s : Nat} (h1 : 1 ≤ a) (h2 : a + 1 < d.size) (hl : d.size ≤ 1000) (hs : s ≤ 100) : Fn Tryz.prog 112 [.own 3 [[.v (.int .i64 s)]]] [.agg (dataR d u), .v (.int .i64 a), .ptr 0 0 0 0] [.v (.int .i64 (Go.Sort.medianAdjacent z7 d a s).1)] [.own 3 [[.v (.int .i64 (Go.Sort.medianAdjacent z7 d a s).2)]]] := by
 unfold Go.Sort.medianAdjacent
 refine Spec.body Tryz.func112 rfl Tryz.ntmps112 (by simp) rfl ?_; intro S0 own0 v0 w0
 refine zA fun K hK => zB ?_
 refine yB (yL rfl rfl rfl sz114 rfl) ?_; simp only [nA, Nat.reduceBEq, Nat.reduceEqDiff, ↓reduceIte]
 refine zF (zD rfl rfl) ?_; try simp only [nA, Nat.reduceBEq, Nat.reduceEqDiff, ↓reduceIte, Nat.reduceAdd, Nat.reduceSub]
 refine zE (hK _ ?_); clear hK K; try simp only [nA, Nat.reduceBEq, Nat.reduceEqDiff, ↓reduceIte, Nat.reduceAdd, Nat.reduceSub]
 refine zA fun K hK => zB ?_
 (refine awR (zI rfl rfl rfl rfl ag114 sz114 (bl rfl) rfl) ?_); try simp only [nA, Nat.reduceBEq, Nat.reduceEqDiff, ↓reduceIte, Nat.reduceAdd, Nat.reduceSub]
 refine zF (zC rfl rfl) ?_; simp only [nA, ↓reduceIte]
 (refine zF (op_subi rfl rfl rfl (by omega)) ?_); try simp only [nA, Nat.reduceBEq, Nat.reduceEqDiff, ↓reduceIte, Nat.reduceAdd, Nat.reduceSub]
 refine zF (zC rfl rfl) ?_; simp only [nA, ↓reduceIte]
 refine zF (zC rfl rfl) ?_; simp only [nA, ↓reduceIte]
 (refine zF (zR rfl rfl rfl (by omega)) ?_); try simp only [nA, Nat.reduceBEq, Nat.reduceEqDiff, ↓reduceIte, Nat.reduceAdd, Nat.reduceSub]
 refine zF (zC rfl rfl) ?_; simp only [nA, ↓reduceIte]
 refine yB (yN (r := 0) rfl en113 (C113i (u := u) (d := d) (a - 1) a (a + 1) s (by omega) rfl (by omega) (by omega) (by omega) h2 hl hs) (by exact rfl) (RL.cons (.base (.same (by exact rfl))) (RL.cons (.base (.same (by exact rfl))) (RL.cons (.base (.same (by exact rfl))) (RL.cons (.base (.same (by exact rfl))) (RL.cons .ptr RL.nil))))) (by exact ⟨_, _, _, rfl, rfl, rfl⟩) (by exact rfl) (by exact rfl) (by exact rfl)) ?_; try simp only [nA, Nat.reduceBEq, Nat.reduceEqDiff, ↓reduceIte, Nat.reduceAdd, Nat.reduceSub]
 refine zF (zD rfl rfl) ?_; simp only [nA]
 refine zE (hK _ ?_); clear hK K
 skip
 refine zO ?_; (try simp only [zJ, zK, Nat.reduceEqDiff, ↓reduceIte]); exact RQ.of (.inl rfl) rfl (.tmp (bl rfl) rfl rfl .nil) (by simp) rfl (one_out rfl)
theorem C112i {u : Value} {d : Array Piece} {x : Int} (a s : Nat) (e : x = a) (h1 : 1 ≤ a) (h2 : a + 1 < d.size) (hl : d.size ≤ 1000) (hs : s ≤ 100) : Fn Tryz.prog 112 [.own 3 [[.v (.int .i64 s)]]] [.agg (dataR d u), .v (.int .i64 x), .ptr 0 0 0 0] [.v (.int .i64 (Go.Sort.medianAdjacent z7 d a s).1)] [.own 3 [[.v (.int .i64 (Go.Sort.medianAdjacent z7 d a s).2)]]] := by
 subst e; exact C112 h1 h2 hl hs
theorem nine {u : Value} {d : Array Piece} {a b : Nat} (h50 : b - a ≥ 50) (hb : b ≤ d.size) (hl : d.size ≤ 1000) : ∃ r1 r2 r3 : Nat × Nat,
   (∀ x : Int, x = ((a + (b - a) / 4 * 1 : Nat) : Int) → Fn Tryz.prog 112 [.own 3 [[.v (.int .i64 ((0 : Nat) : Int))]]] [.agg (dataR d u), .v (.int .i64 x), .ptr 0 0 0 0] [.v (.int .i64 r1.1)] [.own 3 [[.v (.int .i64 r1.2)]]]) ∧
   (∀ x : Int, x = ((a + (b - a) / 4 * 2 : Nat) : Int) → Fn Tryz.prog 112 [.own 3 [[.v (.int .i64 r1.2)]]] [.agg (dataR d u), .v (.int .i64 x), .ptr 0 0 0 0] [.v (.int .i64 r2.1)] [.own 3 [[.v (.int .i64 r2.2)]]]) ∧
   (∀ x : Int, x = ((a + (b - a) / 4 * 3 : Nat) : Int) → Fn Tryz.prog 112 [.own 3 [[.v (.int .i64 r2.2)]]] [.agg (dataR d u), .v (.int .i64 x), .ptr 0 0 0 0] [.v (.int .i64 r3.1)] [.own 3 [[.v (.int .i64 r3.2)]]]) ∧ nR z7 d a b = (r1.1, r2.1, r3.1, r3.2) := by
 have b1 : 1 ≤ a + (b - a) / 4 * 1 ∧ a + (b - a) / 4 * 1 + 1 < d.size := by omega
 have b2 : 1 ≤ a + (b - a) / 4 * 2 ∧ a + (b - a) / 4 * 2 + 1 < d.size := by omega
 have b3 : 1 ≤ a + (b - a) / 4 * 3 ∧ a + (b - a) / 4 * 3 + 1 < d.size := by omega
 have hN := nR_pos (lt := z7) (d := d) h50
 generalize a + (b - a) / 4 * 1 = i1 at *
 generalize a + (b - a) / 4 * 2 = i2 at *
 generalize a + (b - a) / 4 * 3 = i3 at *
 have q1 := mab (lt := z7) (d := d) (s := 0) b1.2
 have k1 := fun (x : Int) (hx : x = (i1 : Nat)) => C112i (u := u) (d := d) i1 0 hx b1.1 b1.2 hl (by omega)
 generalize Go.Sort.medianAdjacent z7 d i1 0 = r1 at *
 have q2 := mab (lt := z7) (d := d) (s := r1.2) b2.2
 have k2 := fun (x : Int) (hx : x = (i2 : Nat)) => C112i (u := u) (d := d) i2 r1.2 hx b2.1 b2.2 hl (by omega)
 generalize Go.Sort.medianAdjacent z7 d i2 r1.2 = r2 at *
 have k3 := fun (x : Int) (hx : x = (i3 : Nat)) => C112i (u := u) (d := d) i3 r2.2 hx b3.1 b3.2 hl (by omega)
 generalize Go.Sort.medianAdjacent z7 d i3 r2.2 = r3 at *
 exact ⟨r1, r2, r3, k1, k2, k3, hN⟩
theorem C98 {u : Value} {d : Array Piece} {a b : Nat} (h8 : 8 ≤ b - a) (hb : b ≤ d.size) (hl : d.size ≤ 1000) : Fn Tryz.prog 98 [] [.agg (dataR d u), .v (.int .i64 a), .v (.int .i64 b)] [.v (.int .i64 (Go.Sort.choosePivot z7 d a b).1), .v (.int .i64 (hintI (Go.Sort.choosePivot z7 d a b).2))] [] := by
 refine Spec.body Tryz.func98 rfl Tryz.ntmps98 (by simp) rfl ?_; intro S0 own0 v0 w0
 refine zA fun K hK => zB ?_
 refine yB (yL rfl rfl rfl sz114 rfl) ?_; simp only [nA, Nat.reduceBEq, Nat.reduceEqDiff, ↓reduceIte]
 refine zF (zD rfl rfl) ?_; try simp only [nA, Nat.reduceBEq, Nat.reduceEqDiff, ↓reduceIte, Nat.reduceAdd, Nat.reduceSub]
 refine zF (zD rfl rfl) ?_; try simp only [nA, Nat.reduceBEq, Nat.reduceEqDiff, ↓reduceIte, Nat.reduceAdd, Nat.reduceSub]
 refine zE (hK _ ?_); clear hK K; try simp only [nA, Nat.reduceBEq, Nat.reduceEqDiff, ↓reduceIte, Nat.reduceAdd, Nat.reduceSub]
 refine zA fun K hK => zB ?_
 refine zF (zC rfl rfl) ?_; simp only [nA, ↓reduceIte]
 refine zF (zC rfl rfl) ?_; simp only [nA, ↓reduceIte]
 (refine zF (op_subi rfl rfl rfl (by omega)) ?_); try simp only [nA, Nat.reduceBEq, Nat.reduceEqDiff, ↓reduceIte, Nat.reduceAdd, Nat.reduceSub]
 refine zF (zD rfl rfl) ?_; simp only [nA]
 refine zE (hK _ ?_); clear hK K
 refine zA fun K hK => zB ?_
 refine yB (op_alloc rfl ze3 rfl) ?_; simp only [nA, Nat.reduceBEq, Nat.reduceEqDiff, ↓reduceIte]
 refine zE (hK _ ?_); clear hK K
 refine zA fun K hK => zB ?_
 refine zF (zC rfl rfl) ?_; simp only [nA, ↓reduceIte]
 refine zF (zC rfl rfl) ?_; simp only [nA, ↓reduceIte]
 (refine zF (op_quoi rfl rfl rfl (by omega)) ?_); try simp only [nA, Nat.reduceBEq, Nat.reduceEqDiff, ↓reduceIte, Nat.reduceAdd, Nat.reduceSub]
 (refine zF (op_muli rfl rfl rfl (by omega)) ?_); try simp only [nA, Nat.reduceBEq, Nat.reduceEqDiff, ↓reduceIte, Nat.reduceAdd, Nat.reduceSub]
 (refine zF (zR rfl rfl rfl (by omega)) ?_); try simp only [nA, Nat.reduceBEq, Nat.reduceEqDiff, ↓reduceIte, Nat.reduceAdd, Nat.reduceSub]
 refine zF (zD rfl rfl) ?_; simp only [nA]
 refine zE (hK _ ?_); clear hK K
 refine zA fun K hK => zB ?_
 refine zF (zC rfl rfl) ?_; simp only [nA, ↓reduceIte]
 refine zF (zC rfl rfl) ?_; simp only [nA, ↓reduceIte]
 (refine zF (op_quoi rfl rfl rfl (by omega)) ?_); try simp only [nA, Nat.reduceBEq, Nat.reduceEqDiff, ↓reduceIte, Nat.reduceAdd, Nat.reduceSub]
 (refine zF (op_muli rfl rfl rfl (by omega)) ?_); try simp only [nA, Nat.reduceBEq, Nat.reduceEqDiff, ↓reduceIte, Nat.reduceAdd, Nat.reduceSub]
 (refine zF (zR rfl rfl rfl (by omega)) ?_); try simp only [nA, Nat.reduceBEq, Nat.reduceEqDiff, ↓reduceIte, Nat.reduceAdd, Nat.reduceSub]
 refine zF (zD rfl rfl) ?_; simp only [nA]
 refine zE (hK _ ?_); clear hK K
 refine zA fun K hK => zB ?_
 refine zF (zC rfl rfl) ?_; simp only [nA, ↓reduceIte]
 refine zF (zC rfl rfl) ?_; simp only [nA, ↓reduceIte]
 (refine zF (op_quoi rfl rfl rfl (by omega)) ?_); try simp only [nA, Nat.reduceBEq, Nat.reduceEqDiff, ↓reduceIte, Nat.reduceAdd, Nat.reduceSub]
 (refine zF (op_muli rfl rfl rfl (by omega)) ?_); try simp only [nA, Nat.reduceBEq, Nat.reduceEqDiff, ↓reduceIte, Nat.reduceAdd, Nat.reduceSub]
 (refine zF (zR rfl rfl rfl (by omega)) ?_); try simp only [nA, Nat.reduceBEq, Nat.reduceEqDiff, ↓reduceIte, Nat.reduceAdd, Nat.reduceSub]
 refine zF (zD rfl rfl) ?_; simp only [nA]
 refine zE (hK _ ?_); clear hK K
 refine zA fun K hK => ?_
 refine zA fun K hK => zB ?_
 refine zF (zC rfl rfl) ?_; simp only [nA, ↓reduceIte]
 refine zF (op_geq rfl rfl rfl) ?_; try simp only [nA, Nat.reduceBEq, Nat.reduceEqDiff, ↓reduceIte, Nat.reduceAdd, Nat.reduceSub]
 refine zE (hK _ ?_); clear hK K
 refine zL rfl rfl rfl (fun hc => ?_) (fun hc => ?_)
 ·
  (try simp only [zY] at hc); have hc1 := hc
  refine AW.join (ι := Nat × Nat × Nat × Nat) (fun q => [(3, .ptr 0 1 0 0), (9, .ptr 1 2 0 0), (10, .v (.int .i64 (q.1 : Nat))), (11, .v (.int .i64 (q.2.1 : Nat))), (12, .v (.int .i64 (q.2.2.1 : Nat)))]) (fun q => ⟨[(1, .own 114 [dataR d u]), (2, .own 3 [[.v (.int .i64 (q.2.2.2 : Nat))]])], 3⟩) (fun q => nR z7 d a b = q) ?_ ?_
  ·
   refine zA fun K hK => zB ?_
   refine zF (zC rfl rfl) ?_; simp only [nA, ↓reduceIte]
   refine zF (op_geq rfl rfl rfl) ?_; try simp only [nA, Nat.reduceBEq, Nat.reduceEqDiff, ↓reduceIte, Nat.reduceAdd, Nat.reduceSub]
   refine zE (hK _ ?_); clear hK K; try simp only [nA, Nat.reduceBEq, Nat.reduceEqDiff, ↓reduceIte, Nat.reduceAdd, Nat.reduceSub]
   refine zL rfl rfl rfl (fun hc => ?_) (fun hc => ?_)
   ·
    (try simp only [zY] at hc); have hc2 := hc; have h50 : b - a ≥ 50 := (by omega); obtain ⟨r1, r2, r3, k1, k2, k3, hN⟩ := nine (u := u) h50 hb hl
    refine zA fun K hK => zB ?_
    (refine awR (zI rfl rfl rfl rfl ag114 sz114 (bl rfl) rfl) ?_); try simp only [nA, Nat.reduceBEq, Nat.reduceEqDiff, ↓reduceIte, Nat.reduceAdd, Nat.reduceSub]
    refine zF (zC rfl rfl) ?_; simp only [nA, ↓reduceIte]
    refine yB (yN (r := 1) rfl en112 (k1 _ (by omega)) (by exact rfl) (RL.cons (.base (.same (by exact rfl))) (RL.cons (.base (.same (by exact rfl))) (RL.cons .ptr RL.nil))) (by exact ⟨_, _, _, rfl, rfl, rfl⟩) (by exact rfl) (by exact rfl) (by exact rfl)) ?_; try simp only [nA, Nat.reduceBEq, Nat.reduceEqDiff, ↓reduceIte, Nat.reduceAdd, Nat.reduceSub]
    refine zF (zD rfl rfl) ?_; simp only [nA]
    refine zE (hK _ ?_); clear hK K
    refine zA fun K hK => zB ?_
    (refine awR (zI rfl rfl rfl rfl ag114 sz114 (bl rfl) rfl) ?_); try simp only [nA, Nat.reduceBEq, Nat.reduceEqDiff, ↓reduceIte, Nat.reduceAdd, Nat.reduceSub]
    refine zF (zC rfl rfl) ?_; simp only [nA, ↓reduceIte]
    refine yB (yN (r := 1) rfl en112 (k2 _ (by omega)) (by exact rfl) (RL.cons (.base (.same (by exact rfl))) (RL.cons (.base (.same (by exact rfl))) (RL.cons .ptr RL.nil))) (by exact ⟨_, _, _, rfl, rfl, rfl⟩) (by exact rfl) (by exact rfl) (by exact rfl)) ?_; try simp only [nA, Nat.reduceBEq, Nat.reduceEqDiff, ↓reduceIte, Nat.reduceAdd, Nat.reduceSub]
    refine zF (zD rfl rfl) ?_; simp only [nA]
    refine zE (hK _ ?_); clear hK K
    refine zB ?_
    (refine awR (zI rfl rfl rfl rfl ag114 sz114 (bl rfl) rfl) ?_); try simp only [nA, Nat.reduceBEq, Nat.reduceEqDiff, ↓reduceIte, Nat.reduceAdd, Nat.reduceSub]
    refine zF (zC rfl rfl) ?_; simp only [nA, ↓reduceIte]
    refine yB (yN (r := 1) rfl en112 (k3 _ (by omega)) (by exact rfl) (RL.cons (.base (.same (by exact rfl))) (RL.cons (.base (.same (by exact rfl))) (RL.cons .ptr RL.nil))) (by exact ⟨_, _, _, rfl, rfl, rfl⟩) (by exact rfl) (by exact rfl) (by exact rfl)) ?_; try simp only [nA, Nat.reduceBEq, Nat.reduceEqDiff, ↓reduceIte, Nat.reduceAdd, Nat.reduceSub]
    refine zF (zD rfl rfl) ?_; simp only [nA]
    refine zE ?_
    exact ⟨(r1.1, r2.1, r3.1, r3.2), hN, ⟨rfl, rfl, rfl, rfl, rfl, trivial⟩, rfl, rfl⟩
   (try simp only [zY] at hc); have hc2 := hc; have h50 : ¬ b - a ≥ 50 := (by omega)
   refine zN ?_
   exact ⟨((a + (b - a) / 4 * 1), (a + (b - a) / 4 * 2), (a + (b - a) / 4 * 3), 0), nR_neg h50, ⟨rfl, rfl, vint (by dsimp only; omega), vint (by dsimp only; omega), vint (by dsimp only; omega), trivial⟩, rfl, rfl⟩
  rintro ⟨n1, n2, n3, n4⟩ ρ hN; simp only [updL]; have hn := nR_bd (lt := z7) h8 hb; have hch := chooseP (lt := z7) (d := d) h8; rw [hN] at hn hch; dsimp only at hn hch ⊢; have k4 := C113 (u := u) (d := d) (a := n1) (b := n2) (c := n3) (s := n4) hn.1 hn.2.1 hn.2.2.1 hl (by omega); generalize Go.Sort.median z7 d n1 n2 n3 n4 = m at k4 hch
  refine zB ?_
  (refine awR (zI rfl rfl rfl rfl ag114 sz114 (bl rfl) rfl) ?_); try simp only [nA, Nat.reduceBEq, Nat.reduceEqDiff, ↓reduceIte, Nat.reduceAdd, Nat.reduceSub]
  refine zF (zC rfl rfl) ?_; simp only [nA, ↓reduceIte]
  refine zF (zC rfl rfl) ?_; simp only [nA, ↓reduceIte]
  refine zF (zC rfl rfl) ?_; simp only [nA, ↓reduceIte]
  refine yB (yN (r := 1) rfl en113 k4 (by exact rfl) (RL.cons (.base (.same (by exact rfl))) (RL.cons (.base (.same (by exact rfl))) (RL.cons (.base (.same (by exact rfl))) (RL.cons (.base (.same (by exact rfl))) (RL.cons .ptr RL.nil))))) (by exact ⟨_, _, _, rfl, rfl, rfl⟩) (by exact rfl) (by exact rfl) (by exact rfl)) ?_; try simp only [nA, Nat.reduceBEq, Nat.reduceEqDiff, ↓reduceIte, Nat.reduceAdd, Nat.reduceSub]
  refine zF (zD rfl rfl) ?_; simp only [nA]
  refine zE (hK _ ?_); clear hK K
  refine zA fun K hK => zB ?_
  (refine awR (zG rfl rfl rfl rfl ag3 rfl rfl) ?_); try simp only [nA, Nat.reduceBEq, Nat.reduceEqDiff, ↓reduceIte, Nat.reduceAdd, Nat.reduceSub]
  refine zE (hK _ ?_); clear hK K
  refine zP ?_
  refine zA fun K hK => zB ?_
  (refine zF (op_eql rfl rfl rfl) ?_); try simp only [nA, Nat.reduceBEq, Nat.reduceEqDiff, ↓reduceIte, Nat.reduceAdd, Nat.reduceSub]
  refine zF (zD rfl rfl) ?_; simp only [nA]
  refine zE (hK _ ?_); clear hK K
  refine zL rfl rfl rfl (fun hc => ?_) (fun hc => ?_)
  ·
   (try simp only [zY] at hc); have hc3 := hc
   refine zA fun K hK => zB ?_
   refine zF (zC rfl rfl) ?_; simp only [nA, ↓reduceIte]
   refine zF (zD rfl rfl) ?_; simp only [nA]
   refine zF (zD rfl rfl) ?_; try simp only [nA, Nat.reduceBEq, Nat.reduceEqDiff, ↓reduceIte, Nat.reduceAdd, Nat.reduceSub]
   refine zE (hK _ ?_); clear hK K
   skip
   refine zO ?_; (try simp only [zJ, zK, Nat.reduceEqDiff, ↓reduceIte]); rw [hch, if_pos (by omega)]; exact zS rfl (.tmp (bl rfl) rfl rfl (.tmp (bl rfl) rfl rfl .nil))
  (try simp only [zY] at hc); have hc3 := hc
  refine zA fun K hK => zB ?_
  (refine zF (op_eql rfl rfl rfl) ?_); try simp only [nA, Nat.reduceBEq, Nat.reduceEqDiff, ↓reduceIte, Nat.reduceAdd, Nat.reduceSub]
  refine zF (zD rfl rfl) ?_; simp only [nA]
  refine zE (hK _ ?_); clear hK K
  refine zL rfl rfl rfl (fun hc => ?_) (fun hc => ?_)
  ·
   (try simp only [zY] at hc); have hc4 := hc
   refine zA fun K hK => zB ?_
   refine zF (zC rfl rfl) ?_; simp only [nA, ↓reduceIte]
   refine zF (zD rfl rfl) ?_; simp only [nA]
   refine zF (zD rfl rfl) ?_; try simp only [nA, Nat.reduceBEq, Nat.reduceEqDiff, ↓reduceIte, Nat.reduceAdd, Nat.reduceSub]
   refine zE (hK _ ?_); clear hK K
   skip
   refine zO ?_; (try simp only [zJ, zK, Nat.reduceEqDiff, ↓reduceIte]); rw [hch, if_neg (by omega), if_pos (by omega)]; exact zS rfl (.tmp (bl rfl) rfl rfl (.tmp (bl rfl) rfl rfl .nil))
  (try simp only [zY] at hc); have hc4 := hc
  refine zA fun K hK => zB ?_
  refine zF (zC rfl rfl) ?_; simp only [nA, ↓reduceIte]
  refine zF (zD rfl rfl) ?_; simp only [nA]
  refine zF (zD rfl rfl) ?_; try simp only [nA, Nat.reduceBEq, Nat.reduceEqDiff, ↓reduceIte, Nat.reduceAdd, Nat.reduceSub]
  refine zE (hK _ ?_); clear hK K
  skip
  refine zO ?_; (try simp only [zJ, zK, Nat.reduceEqDiff, ↓reduceIte]); rw [hch, if_neg (by omega), if_neg (by omega)]; exact zS rfl (.tmp (bl rfl) rfl rfl (.tmp (bl rfl) rfl rfl .nil))
 (simp at hc; omega)
end Go.Proofs.YtmdohphcolffmaaGreat
