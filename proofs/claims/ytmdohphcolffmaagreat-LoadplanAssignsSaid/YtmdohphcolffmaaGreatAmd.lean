import Derived.Test.YtmdohphcolffmaaGreatAmc
namespace Go.Proofs.YtmdohphcolffmaaGreat
set_option maxHeartbeats 8000000
open Go.RowKit
set_option linter.unusedSimpArgs false
set_option linter.unusedVariables false
set_option maxRecDepth 100000
theorem C63 {c : Container} {p : Piece} : Fn Tryz.prog 63 [] [.agg c.av, .agg p.av] [.agg (putC c p false).1.av, .v (.int .i64 (putC c p false).2)] [] := by
 refine Spec.body Tryz.func63 rfl Tryz.ntmps63 (by simp) rfl ?_; intro S0 own0 v0 w0
 refine zA fun K hK => zB ?_
 refine yD (yO rfl rfl rfl yH rfl) ?_; simp only [nA, Nat.reduceBEq, Nat.reduceEqDiff, ↓reduceIte]
 refine yD (yO rfl rfl rfl yR rfl) ?_; simp only [nA, Nat.reduceBEq, Nat.reduceEqDiff, ↓reduceIte]
 refine yD (op_alloc rfl ze33 rfl) ?_; simp only [nA, Nat.reduceBEq, Nat.reduceEqDiff, ↓reduceIte]
 refine zF (zD rfl rfl) ?_
 refine zE (hK _ ?_); clear hK K; try simp only [nA, Nat.reduceBEq, Nat.reduceEqDiff, ↓reduceIte, Nat.reduceAdd, Nat.reduceSub]
 refine zA fun K hK => zB ?_
 refine awR (zK rfl rfl rfl rfl ag33 yH (bl rfl) rfl) ?_
 refine awR (zK rfl rfl rfl rfl ag35 yR (bl rfl) rfl) ?_
 refine yD (op_call (b := false) rfl en54 (C54) (RL.cons (by exact View.same rfl) (RL.cons (by exact View.same rfl) (RL.cons (by exact View.same rfl) (RL.nil)))) rfl (fun h => by cases h) rfl rfl) ?_; try simp only [nA, Nat.reduceBEq, Nat.reduceEqDiff, ↓reduceIte, Nat.reduceAdd, Nat.reduceSub]
 refine zF (z6 rfl rfl rfl) ?_
 refine zF (z6 rfl rfl rfl) ?_
 refine yD (z8 rfl rfl rfl rfl rfl rfl yH rfl (bl rfl) rfl) ?_; simp only [nA, Nat.reduceBEq, Nat.reduceEqDiff, ↓reduceIte]
 refine zF (zD rfl rfl) ?_
 refine zE (hK _ ?_); clear hK K; simp only [nA]
 skip
 refine zO ?_; (try simp only [zI, zJ, Nat.reduceEqDiff, ↓reduceIte]); exact zS rfl (.cell (bl rfl) rfl rfl rfl ag33 yH (bl rfl) rfl rfl (.tmp (bl rfl) rfl rfl .nil))
theorem C32 {c : Container} {p : Piece} : Fn Tryz.prog 32 [] [.agg c.av, .agg p.av] [.agg (putC c p true).1.av, .v (.int .i64 (putC c p true).2)] [] := by
 refine Spec.body Tryz.func32 rfl Tryz.ntmps32 (by simp) rfl ?_; intro S0 own0 v0 w0
 refine zA fun K hK => zB ?_
 refine yD (yO rfl rfl rfl yH rfl) ?_; simp only [nA, Nat.reduceBEq, Nat.reduceEqDiff, ↓reduceIte]
 refine yD (yO rfl rfl rfl yR rfl) ?_; simp only [nA, Nat.reduceBEq, Nat.reduceEqDiff, ↓reduceIte]
 refine yD (op_alloc rfl ze33 rfl) ?_; simp only [nA, Nat.reduceBEq, Nat.reduceEqDiff, ↓reduceIte]
 refine zF (zD rfl rfl) ?_
 refine zE (hK _ ?_); clear hK K; try simp only [nA, Nat.reduceBEq, Nat.reduceEqDiff, ↓reduceIte, Nat.reduceAdd, Nat.reduceSub]
 refine zA fun K hK => zB ?_
 refine awR (zK rfl rfl rfl rfl ag33 yH (bl rfl) rfl) ?_
 refine awR (zK rfl rfl rfl rfl ag35 yR (bl rfl) rfl) ?_
 refine yD (op_call (b := false) rfl en54 (C54) (RL.cons (by exact View.same rfl) (RL.cons (by exact View.same rfl) (RL.cons (by exact View.same rfl) (RL.nil)))) rfl (fun h => by cases h) rfl rfl) ?_; try simp only [nA, Nat.reduceBEq, Nat.reduceEqDiff, ↓reduceIte, Nat.reduceAdd, Nat.reduceSub]
 refine zF (z6 rfl rfl rfl) ?_
 refine zF (z6 rfl rfl rfl) ?_
 refine yD (z8 rfl rfl rfl rfl rfl rfl yH rfl (bl rfl) rfl) ?_; simp only [nA, Nat.reduceBEq, Nat.reduceEqDiff, ↓reduceIte]
 refine zF (zD rfl rfl) ?_
 refine zE (hK _ ?_); clear hK K; simp only [nA]
 skip
 refine zO ?_; (try simp only [zI, zJ, Nat.reduceEqDiff, ↓reduceIte]); exact zS rfl (.cell (bl rfl) rfl rfl rfl ag33 yH (bl rfl) rfl rfl (.tmp (bl rfl) rfl rfl .nil))
def weightC (c : Container) : Int := if valC c ≠ 0 then 0 else sumW c.pieces
theorem C61 {c : Container} : Fn Tryz.prog 61 [] [.agg c.av] [.v (.int .i64 (weightC c))] [] := by
 refine Spec.body Tryz.func61 rfl Tryz.ntmps61 (by simp) rfl ?_; intro S0 own0 v0 w0
 refine zA fun K hK => zB ?_
 refine yD (yO rfl rfl rfl yH rfl) ?_; simp only [nA, Nat.reduceBEq, Nat.reduceEqDiff, ↓reduceIte]
 refine zF (zD rfl rfl) ?_
 refine zE (hK _ ?_); clear hK K; try simp only [nA, Nat.reduceBEq, Nat.reduceEqDiff, ↓reduceIte, Nat.reduceAdd, Nat.reduceSub]
 refine zA fun K hK => ?_
 refine zA fun K hK => zB ?_
 refine awR (zK rfl rfl rfl rfl ag33 yH (bl rfl) rfl) ?_
 refine yD (OpQ.j (zT (b := true) rfl en60 (C60) (RL.cons (by exact View.same rfl) (RL.nil)) rfl)) ?_; try simp only [nA, Nat.reduceBEq, Nat.reduceEqDiff, ↓reduceIte, Nat.reduceAdd, Nat.reduceSub]
 refine zF (op_neq rfl rfl rfl) ?_
 refine zE (hK _ ?_); clear hK K; try simp only [nA, Nat.reduceBEq, Nat.reduceEqDiff, ↓reduceIte, Nat.reduceAdd, Nat.reduceSub]
 refine zL rfl rfl rfl (fun hc => ?_) (fun hc => ?_)
 ·
  (try simp only [z7] at hc); have hc1 := hc
  refine zA fun K hK => zB ?_
  refine zF (zD rfl rfl) ?_
  refine zE (hK _ ?_); clear hK K; try simp only [nA, Nat.reduceBEq, Nat.reduceEqDiff, ↓reduceIte, Nat.reduceAdd, Nat.reduceSub]
  skip
  refine zO ?_; (try simp only [zI, zJ, Nat.reduceEqDiff, ↓reduceIte]); rw [show weightC c = 0 by unfold weightC; rw [if_pos (by simpa using hc)]]; exact zS rfl (.tmp (bl rfl) rfl rfl .nil)
 (try simp only [z7] at hc); have hc1 := hc; have hv := val_inv (c := c) (by simpa using hc1); have hvw := val_w (c := c) (by simpa using hc1)
 refine zM ?_
 refine hK _ ?_; clear hK K
 refine zA fun K hK => zB ?_
 refine zF (zH rfl rfl rfl fl33_7 (by exact sz31) (by decide) rfl) ?_
 refine awR (zG rfl rfl rfl rfl ag31 rfl rfl) ?_
 refine yD (OpQ.j (zT (b := true) rfl en79 (C79 (l := c.pieces) (by omega) hvw) (RL.cons (by exact View.same rfl) (RL.nil)) rfl)) ?_; try simp only [nA, Nat.reduceBEq, Nat.reduceEqDiff, ↓reduceIte, Nat.reduceAdd, Nat.reduceSub]
 refine zF (zD rfl rfl) ?_
 refine zE (hK _ ?_); clear hK K; simp only [nA]
 skip
 refine zO ?_; (try simp only [zI, zJ, Nat.reduceEqDiff, ↓reduceIte]); rw [show weightC c = sumW c.pieces by unfold weightC; rw [if_neg (by simpa using hc1)]]; exact zS rfl (.tmp (bl rfl) rfl rfl .nil)
def overC (c : Container) : Bool := if valC c ≠ 0 then false else if c.pieces.all (fun p => bitB c.categories p.category) = false then true else decide (weightC c > c.limit) || decide ((c.pieces.length : Int) > c.most)
set_option maxRecDepth 100000
abbrev iv (n : Int) : List AV := [.v (.int .i64 n)]
abbrev srcRow (l : List Int) (k : Nat) : List AV := [.ro (l.map iv), .v (.int .i64 (k : Nat))]
theorem iv_len (l : List Int) : ∀ x ∈ l.map iv, x.length = 1 := fun x hx => by
 obtain ⟨p, _, rfl⟩ := List.mem_map.1 hx; rfl
theorem one_out {T : Sl} {x : AV} (h : T.slots[0]? = some (0, x)) : ∀ (r : Nat) (y : AV), [x][r]? = some y → T.slots[r]? = some (0, y) := fun r y hy => by
 cases r with
 | zero => simp at hy; subst hy; exact h
 | succ r => simp at hy
theorem C6 {l : List Int} : FnB Tryz.prog 6 [.ro (l.map iv)] 67 (srcRow (l.take 2000) 0) := by
 refine FnB.body Tryz.func6 rfl Tryz.ntmps6 (by simp) sz67 ?_; intro S0 own0 v0 w0
 refine zA fun K hK => zB ?_
 refine zF (zD rfl rfl) ?_
 refine zE (hK _ ?_); clear hK K; try simp only [nA, Nat.reduceBEq, Nat.reduceEqDiff, ↓reduceIte, Nat.reduceAdd, Nat.reduceSub]
 refine zA fun K hK => ?_
 refine zA fun K hK => zB ?_
 refine zF (zC rfl rfl) ?_
 refine zF (zX rfl rfl Tryz.underlying36 (by exact .inr (.inl ⟨_, rfl, rfl⟩))) ?_
 refine zF (op_gtr rfl rfl rfl) ?_
 refine zE (hK _ ?_); clear hK K; simp only [nA, ↓reduceIte]
 refine zL rfl rfl rfl (fun hc => ?_) (fun hc => ?_)
 ·
  (try simp only [z7] at hc); have hc1 := hc
  refine zB ?_
  refine zF (zC rfl rfl) ?_
  refine zF (op_slice_ro 0 2000 rfl (.inl rfl) (by exact rfl) (by exact ⟨_, rfl⟩) (by omega) (by simp; omega) Tryz.underlying36 sz36 (iv_len l) (es' := (l.take 2000).map iv) (by simp [List.map_take])) ?_; simp only [nA, ↓reduceIte]
  refine zF (zD rfl rfl) ?_
  refine zE (hK _ ?_); clear hK K; simp only [nA]
  refine zA fun K hK => zB ?_
  refine zF (zC rfl rfl) ?_
  refine zF (op_build2 (xs := [_, .v (.int .i64 0)]) rfl pl67 ze67 [(0, [_])] rfl rfl rfl) ?_
  refine yD (yO rfl rfl rfl sz67 rfl) ?_; simp only [nA, Nat.reduceBEq, Nat.reduceEqDiff, ↓reduceIte]
  refine zF (zD rfl rfl) ?_
  refine zE (hK _ ?_); clear hK K; simp only [nA]
  skip
  refine zO ?_; (try simp only [zI, zJ, Nat.reduceEqDiff, ↓reduceIte]); exact ⟨2, 0, 1, rfl, (bl rfl), rfl, rfl⟩
 (try simp only [z7] at hc); have hc1 := hc
 refine zM ?_
 refine hK _ ?_; clear hK K
 refine zA fun K hK => zB ?_
 refine zF (zC rfl rfl) ?_
 refine zF (op_build2 (xs := [_, .v (.int .i64 0)]) rfl pl67 ze67 [(0, [_])] rfl rfl rfl) ?_
 refine yD (yO rfl rfl rfl sz67 rfl) ?_; simp only [nA, Nat.reduceBEq, Nat.reduceEqDiff, ↓reduceIte]
 refine zF (zD rfl rfl) ?_
 refine zE (hK _ ?_); clear hK K; simp only [nA]
 skip
 refine zO ?_; (try simp only [zI, zJ, Nat.reduceEqDiff, ↓reduceIte]); rw [show l.take 2000 = l from List.take_of_length_le (by omega)]; exact ⟨2, 0, 1, rfl, (bl rfl), rfl, rfl⟩
def gmod (x n : Int) : Int := if n < 1 then 0 else if Int.tmod x n < 0 then Int.tmod x n + n else Int.tmod x n
theorem gmod_bd {x n : Int} (h : 1 ≤ n) : 0 ≤ gmod x n ∧ gmod x n < n := by
 unfold gmod
 have h1 : Int.tmod x n < n := Int.tmod_lt_of_pos x (by omega)
 have h2 : -n < Int.tmod x n := Int.lt_tmod_of_pos x (by omega)
 rw [if_neg (by omega)]
 split <;> omega
theorem C35 {x n : Int} (hn : n ≤ 9223372036854775807) : Fn Tryz.prog 35 [] [.v (.int .i64 x), .v (.int .i64 n)] [.v (.int .i64 (gmod x n))] [] := by
 refine Spec.body Tryz.func35 rfl Tryz.ntmps35 (by simp) rfl ?_; intro S0 own0 v0 w0
 refine zA fun K hK => zB ?_
 refine zF (zD rfl rfl) ?_
 refine zE (hK _ ?_); clear hK K; try simp only [nA, Nat.reduceBEq, Nat.reduceEqDiff, ↓reduceIte, Nat.reduceAdd, Nat.reduceSub]
 refine zA fun K hK => ?_
 refine zA fun K hK => zB ?_
 refine zF (zC rfl rfl) ?_
 refine zF (yP rfl rfl rfl) ?_
 refine zE (hK _ ?_); clear hK K; simp only [nA, ↓reduceIte]
 refine zL rfl rfl rfl (fun hc => ?_) (fun hc => ?_)
 ·
  (try simp only [z7] at hc); have hc1 := hc
  refine zA fun K hK => zB ?_
  refine zF (zD rfl rfl) ?_
  refine zE (hK _ ?_); clear hK K; try simp only [nA, Nat.reduceBEq, Nat.reduceEqDiff, ↓reduceIte, Nat.reduceAdd, Nat.reduceSub]
  skip
  refine zO ?_; (try simp only [zI, zJ, Nat.reduceEqDiff, ↓reduceIte]); rw [show gmod x n = 0 by unfold gmod; rw [if_pos hc]]; exact zS rfl (.tmp (bl rfl) rfl rfl .nil)
 (try simp only [z7] at hc); have hc1 := hc; have h1 : Int.tmod x n < n := Int.tmod_lt_of_pos x (by omega); have h2 : -n < Int.tmod x n := Int.lt_tmod_of_pos x (by omega)
 refine zM ?_
 refine hK _ ?_; clear hK K
 refine zA fun K hK => zB ?_
 refine zF (zC rfl rfl) ?_
 refine zF (zC rfl rfl) ?_
 refine zF (op_rem rfl rfl rfl (by omega) rfl) ?_
 refine zF (zD rfl rfl) ?_
 refine zE (hK _ ?_); clear hK K; simp only [nA, ↓reduceIte]
 refine zA fun K hK => ?_
 refine zA fun K hK => zB ?_
 refine zF (zC rfl rfl) ?_
 refine zF (yP rfl rfl rfl) ?_
 refine zE (hK _ ?_); clear hK K; simp only [nA]
 refine zL rfl rfl rfl (fun hc => ?_) (fun hc => ?_)
 ·
  (try simp only [z7] at hc); have hc2 := hc
  refine zB ?_
  refine zF (zC rfl rfl) ?_
  refine zF (zC rfl rfl) ?_
  refine zF (zR rfl rfl rfl (by omega)) ?_
  refine zF (zD rfl rfl) ?_
  refine zE (hK _ ?_); clear hK K; simp only [nA, ↓reduceIte]
  refine zA fun K hK => zB ?_
  refine zF (zC rfl rfl) ?_
  refine zF (zD rfl rfl) ?_
  refine zE (hK _ ?_); clear hK K; simp only [nA]
  skip
  refine zO ?_; (try simp only [zI, zJ, Nat.reduceEqDiff, ↓reduceIte]); rw [show gmod x n = Int.tmod x n + n by unfold gmod; rw [if_neg (by omega), if_pos (by omega)]]; exact zS rfl (.tmp (bl rfl) rfl rfl .nil)
 (try simp only [z7] at hc); have hc2 := hc
 refine zM ?_
 refine hK _ ?_; clear hK K
 refine zA fun K hK => zB ?_
 refine zF (zC rfl rfl) ?_
 refine zF (zD rfl rfl) ?_
 refine zE (hK _ ?_); clear hK K; simp only [nA, ↓reduceIte]
 skip
 refine zO ?_; (try simp only [zI, zJ, Nat.reduceEqDiff, ↓reduceIte]); rw [show gmod x n = Int.tmod x n by unfold gmod; rw [if_neg (by omega), if_neg (by omega)]]; exact zS rfl (.tmp (bl rfl) rfl rfl .nil)
def rawV (l : List Int) (k : Nat) : Int := l.getD k default
def zP (l : List Int) (k : Nat) : Nat := if k < l.length then k + 1 else k
theorem C36 {l : List Int} {k : Nat} (hl : l.length ≤ 2000) : Fn Tryz.prog 36 [.own 67 [srcRow l k]] [.ptr 0 0 0 0] [.v (.int .i64 (rawV l k))] [.own 67 [srcRow l (zP l k)]] := by
 refine Spec.body Tryz.func36 rfl Tryz.ntmps36 (by simp) rfl ?_; intro S0 own0 v0 w0
 refine zA fun K hK => zB ?_
 refine zF (zD rfl rfl) ?_
 refine zE (hK _ ?_); clear hK K; try simp only [nA, Nat.reduceBEq, Nat.reduceEqDiff, ↓reduceIte, Nat.reduceAdd, Nat.reduceSub]
 refine zA fun K hK => ?_
 refine zA fun K hK => ?_
 refine AW.quiet mix (by kernel_rfl) ?_
 refine zQ (zC rfl rfl) ?_
 refine zQ (op_nil_slot rfl rfl rfl) ?_
 refine zQ (zH rfl rfl rfl fl67_1 (by exact sz3) (by decide) rfl) ?_
 refine aqR (zG rfl rfl rfl rfl ag3 rfl rfl) ?_
 refine zQ (zC rfl rfl) ?_
 refine zQ (op_nil_slot rfl rfl rfl) ?_
 refine zQ (zH rfl rfl rfl fl67_0 (by exact sz36) (by decide) rfl) ?_
 refine aqR (zG rfl rfl rfl rfl ag36 rfl rfl) ?_
 refine zQ (zX rfl rfl Tryz.underlying36 (by exact .inr (.inl ⟨_, rfl, rfl⟩))) ?_
 refine zQ (op_geq rfl rfl rfl) ?_
 refine yN (hK _ ?_); clear hK K; simp only [nA, ↓reduceIte]
 refine zL rfl rfl rfl (fun hc => ?_) (fun hc => ?_)
 ·
  (try simp only [z7] at hc); have hc1 := hc
  refine zA fun K hK => zB ?_
  refine zF (zD rfl rfl) ?_
  refine zE (hK _ ?_); clear hK K; try simp only [nA, Nat.reduceBEq, Nat.reduceEqDiff, ↓reduceIte, Nat.reduceAdd, Nat.reduceSub]
  skip
  refine zO ?_; (try simp only [zI, zJ, Nat.reduceEqDiff, ↓reduceIte]); rw [show rawV l k = 0 by unfold rawV; rw [List.getD_eq_getElem?_getD, List.getElem?_eq_none (by omega)]; rfl, show zP l k = k by unfold zP; rw [if_neg (by omega)]]; exact RQ.of (.inl rfl) rfl (.tmp (bl rfl) rfl rfl .nil) (by simp) rfl (one_out rfl)
 (try simp only [z7] at hc); have hc1 := hc
 refine zM ?_
 refine hK _ ?_; clear hK K
 refine zA fun K hK => zB ?_
 refine zF (zC rfl rfl) ?_
 refine zF (op_nil_slot rfl rfl rfl) ?_
 refine zF (zH rfl rfl rfl fl67_1 (by exact sz3) (by decide) rfl) ?_
 refine awR (zG rfl rfl rfl rfl ag3 rfl rfl) ?_
 refine zF (zR rfl rfl rfl (by omega)) ?_
 refine zF (op_nil_slot rfl rfl rfl) ?_
 refine zF (zH rfl rfl rfl fl67_1 (by exact sz3) (by decide) rfl) ?_
 refine yD (z8 rfl rfl rfl rfl rfl rfl sz3 rfl (bl rfl) rfl) ?_; simp only [nA, ↓reduceIte]
 refine zE (hK _ ?_); clear hK K
 refine zA fun K hK => ?_
 refine AW.quiet mix (by kernel_rfl) ?_
 refine zQ (zC rfl rfl) ?_
 refine zQ (op_nil_slot rfl rfl rfl) ?_
 refine zQ (zH rfl rfl rfl fl67_0 (by exact sz36) (by decide) rfl) ?_
 refine aqR (zG rfl rfl rfl rfl ag36 rfl rfl) ?_
 refine zQ (zC rfl rfl) ?_
 refine zQ (op_nil_slot rfl rfl rfl) ?_
 refine zQ (zH rfl rfl rfl fl67_1 (by exact sz3) (by decide) rfl) ?_
 refine aqR (zG rfl rfl rfl rfl ag3 rfl rfl) ?_
 refine zQ (op_subi rfl rfl rfl (by omega)) ?_
 refine zQ (zW k rfl (.inl rfl) rfl Tryz.underlying36 (by omega) (yF (by omega)) (by exact sz3) (bl rfl)) ?_
 refine aqR (yA rfl rfl ag3) ?_
 refine zQ (zD rfl rfl) ?_
 refine yN (hK _ ?_); clear hK K; simp only [nA, ↓reduceIte]
 skip
 refine zO ?_; (try simp only [zI, zJ, Nat.reduceEqDiff, ↓reduceIte]); rw [show zP l k = k + 1 by unfold zP; rw [if_pos (by omega)]]; exact RQ.of (.inl rfl) rfl (.tmp (bl rfl) rfl rfl .nil) (by simp) rfl (one_out rfl)
set_option maxRecDepth 100000
theorem C18 {l : List Int} {k : Nat} {n : Int} (hl : l.length ≤ 2000) (hn : n ≤ 9223372036854775807) : Fn Tryz.prog 18 [.own 67 [srcRow l k]] [.ptr 0 0 0 0, .v (.int .i64 n)] [.v (.int .i64 (gmod (rawV l k) n))] [.own 67 [srcRow l (zP l k)]] := by
 refine Spec.body Tryz.func18 rfl Tryz.ntmps18 (by simp) rfl ?_; intro S0 own0 v0 w0
 refine zA fun K hK => zB ?_
 refine zF (zD rfl rfl) ?_; try simp only [nA, Nat.reduceBEq, Nat.reduceEqDiff, ↓reduceIte, Nat.reduceAdd, Nat.reduceSub]
 refine zE (hK _ ?_); clear hK K; try simp only [nA, Nat.reduceBEq, Nat.reduceEqDiff, ↓reduceIte, Nat.reduceAdd, Nat.reduceSub]
 refine zA fun K hK => zB ?_
 refine zF (zC rfl rfl) ?_; simp only [nA, ↓reduceIte]
 refine yD (yQ rfl en36 (C36 hl) (by exact rfl) (RL.cons .ptr (RL.nil)) (by exact ⟨_, _, _, rfl, rfl, rfl⟩) (by exact rfl) (by exact rfl) (by exact rfl)) ?_; try simp only [nA, Nat.reduceBEq, Nat.reduceEqDiff, ↓reduceIte, Nat.reduceAdd, Nat.reduceSub]
 refine zF (zC rfl rfl) ?_; simp only [nA, ↓reduceIte]
 refine yD (OpQ.j (zT (b := true) rfl en35 (C35 (by omega)) (RL.cons (by exact View.same rfl) (RL.cons (by exact View.same rfl) (RL.nil))) rfl)) ?_; try simp only [nA, Nat.reduceBEq, Nat.reduceEqDiff, ↓reduceIte, Nat.reduceAdd, Nat.reduceSub]
 refine zF (zD rfl rfl) ?_; simp only [nA]
 refine zE (hK _ ?_); clear hK K
 skip
 refine zO ?_; (try simp only [zI, zJ, Nat.reduceEqDiff, ↓reduceIte]); exact RQ.of (.inl rfl) rfl (.tmp (bl rfl) rfl rfl .nil) (by simp) rfl (one_out rfl)
def yT (i : Int) : Plate := ⟨gmod i 1000 / 500, 117 + gmod i 1000 / 100 % 5, 1000 + gmod i 1000 % 100⟩
theorem C30 {i : Int} : Fn Tryz.prog 30 [] [.v (.int .i64 i)] [.agg (yT i).av] [] := by
 have hg := gmod_bd (x := i) (n := 1000) (by decide)
 refine Spec.body Tryz.func30 rfl Tryz.ntmps30 (by simp) rfl ?_; intro S0 own0 v0 w0
 refine zA fun K hK => zB ?_
 refine yD (op_alloc rfl ze23 rfl) ?_; simp only [nA, Nat.reduceBEq, Nat.reduceEqDiff, ↓reduceIte]
 refine zE (hK _ ?_); clear hK K; try simp only [nA, Nat.reduceBEq, Nat.reduceEqDiff, ↓reduceIte, Nat.reduceAdd, Nat.reduceSub]
 refine zA fun K hK => zB ?_
 refine zF (zC rfl rfl) ?_; simp only [nA, ↓reduceIte]
 refine yD (OpQ.j (zT (b := true) rfl en35 (C35 (n := 1000) (by decide)) (RL.cons (by exact View.same rfl) (RL.cons (by exact View.same rfl) (RL.nil))) rfl)) ?_; try simp only [nA, Nat.reduceBEq, Nat.reduceEqDiff, ↓reduceIte, Nat.reduceAdd, Nat.reduceSub]
 refine zF (zD rfl rfl) ?_; simp only [nA]
 refine zE (hK _ ?_); clear hK K
 refine zA fun K hK => zB ?_
 refine zF (zC rfl rfl) ?_; simp only [nA]
 (refine zF (op_quoi rfl rfl rfl (by omega)) ?_); try simp only [nA, Nat.reduceBEq, Nat.reduceEqDiff, ↓reduceIte, Nat.reduceAdd, Nat.reduceSub]
 refine zF (zC rfl rfl) ?_; simp only [nA, ↓reduceIte]
 (refine zF (op_quoi rfl rfl rfl (by omega)) ?_); try simp only [nA, Nat.reduceBEq, Nat.reduceEqDiff, ↓reduceIte, Nat.reduceAdd, Nat.reduceSub]
 (refine zF (op_remi rfl rfl rfl (by omega)) ?_); try simp only [nA, Nat.reduceBEq, Nat.reduceEqDiff, ↓reduceIte, Nat.reduceAdd, Nat.reduceSub]
 (refine zF (zR rfl rfl rfl (by omega)) ?_); try simp only [nA, Nat.reduceBEq, Nat.reduceEqDiff, ↓reduceIte, Nat.reduceAdd, Nat.reduceSub]
 refine zF (zC rfl rfl) ?_; simp only [nA, ↓reduceIte]
 (refine zF (op_remi rfl rfl rfl (by omega)) ?_); try simp only [nA, Nat.reduceBEq, Nat.reduceEqDiff, ↓reduceIte, Nat.reduceAdd, Nat.reduceSub]
 (refine zF (zR rfl rfl rfl (by omega)) ?_); try simp only [nA, Nat.reduceBEq, Nat.reduceEqDiff, ↓reduceIte, Nat.reduceAdd, Nat.reduceSub]
 refine zF (op_build2 (xs := [_, _, _]) rfl pl23 ze23 [(0, [_]), (1, [_]), (2, [_])] rfl rfl rfl) ?_; simp only [nA, ↓reduceIte]
 refine yD (z8 rfl rfl rfl rfl rfl rfl sz23 rfl (bl rfl) rfl) ?_; simp only [nA, Nat.reduceBEq, Nat.reduceEqDiff, ↓reduceIte]
 refine zE (hK _ ?_); clear hK K
 skip
 refine zO ?_; (try simp only [zI, zJ, Nat.reduceEqDiff, ↓reduceIte]); exact zS rfl (.cell (bl rfl) rfl rfl rfl ag23 sz23 (bl rfl) rfl rfl .nil)
set_option maxRecDepth 100000
theorem st25 : Tryz.prog.stoodInHeld 25 = false := by kernel_rfl
theorem fo25 : Tryz.prog.underlying 25 = some (.struct (Tryz.prog.fieldsOf 25)) := by
 unfold Program.fieldsOf; rw [Tryz.underlying25]
theorem ty25 : Tryz.prog.eqGuardType Tryz.prog.depth 25 = false := by kernel_rfl
def flEq (f g : Flight) : Bool := (f.carrier.toList == g.carrier.toList) && ((f.number == g.number) && ((f.suffix.toList == g.suffix.toList) && (f.day == g.day)))
theorem run_neq25 (p q : Flight) (w : World) : (binOp .neq 25 (.agg #[.string p.carrier, .int .i64 p.number, .string p.suffix, .int .i64 p.day]) (.agg #[.string q.carrier, .int .i64 q.number, .string q.suffix, .int .i64 q.day])).run Tryz.prog w = .ok (.bool (!flEq p q)) w := by
 obtain ⟨a, b, c, d⟩ := p
 obtain ⟨a', b', c', d'⟩ := q
 unfold binOp
 simp only [Op.equal]
 rw [Sem.run_bind, show Op.maxDepth = 9998 + 1 + 1 from rfl, run_equalIn_struct w _ 25 _ _ fo25 st25]
 unfold Program.fieldsOf; rw [Tryz.underlying25]
 simp only [Op.eqFields]
 go_simp
 unfold flEq
 by_cases h1 : a.toList = a'.toList <;> by_cases h2 : b = b' <;> by_cases h3 : c.toList = c'.toList <;> by_cases h4 : d = d' <;> simp [h1, h2, h3, h4]
theorem run_tyn25 (p q : Operand) (x y : Array Value) (w : World) : (eqGuard .neq 25 p q (.agg x) (.agg y)).run Tryz.prog w = .ok () w := by
 unfold eqGuard
 simp [ty25, run_program]
theorem st35 : Tryz.prog.stoodInHeld 35 = false := by kernel_rfl
theorem fo35 : Tryz.prog.underlying 35 = some (.struct (Tryz.prog.fieldsOf 35)) := by
 unfold Program.fieldsOf; rw [Tryz.underlying35]
theorem ty35 : Tryz.prog.eqGuardType Tryz.prog.depth 35 = false := by kernel_rfl
def piEq (p q : Piece) : Bool := decide (p.plate = q.plate) && ((p.weight == q.weight) && (p.category == q.category))
theorem run_neq35 (p q : Piece) (w : World) : (binOp .neq 35 (.agg #[.int .i64 p.plate.lead, .int .i64 p.plate.airline, .int .i64 p.plate.serial, .int .i64 p.weight, .int .i64 p.category]) (.agg #[.int .i64 q.plate.lead, .int .i64 q.plate.airline, .int .i64 q.plate.serial, .int .i64 q.weight, .int .i64 q.category])).run Tryz.prog w = .ok (.bool (!piEq p q)) w := by
 obtain ⟨⟨x, y, z⟩, b, c⟩ := p
 obtain ⟨⟨x', y', z'⟩, b', c'⟩ := q
 unfold binOp
 simp only [Op.equal]
 rw [Sem.run_bind, show Op.maxDepth = 9997 + 1 + 1 + 1 from rfl, run_equalIn_struct w _ 35 _ _ fo35 st35]
 unfold Program.fieldsOf; rw [Tryz.underlying35]
 simp only [Op.eqFields]
 go_simp
 unfold piEq
 by_cases h1 : x = x' <;> by_cases h4 : y = y' <;> by_cases h5 : z = z' <;> by_cases h2 : b = b' <;> by_cases h3 : c = c' <;> simp [h1, h2, h3, h4, h5]
theorem run_tyn35 (p q : Operand) (x y : Array Value) (w : World) : (eqGuard .neq 35 p q (.agg x) (.agg y)).run Tryz.prog w = .ok () w := by
 unfold eqGuard
 simp [ty35, run_program]
section
variable {S0 : Nat → Prop} {own0 : List Nat} {v0 : List Value} {w0 : World} {o : Oper} {ev : Operand → AV} {T : Sl} {yt : TypeId} {y z : Operand}
theorem op_neq25 {p q : Flight} (ho : o.op = .binOp .neq 25 y z yt) (hy : ev y = .agg p.av) (hz : ev z = .agg q.av) : OpP ⟨Tryz.prog, S0, own0, v0, w0⟩ o ev T (.v (.bool (!flEq p q))) :=
 op_bin_agg (xs := [.string p.carrier, .int .i64 p.number, .string p.suffix, .int .i64 p.day]) (ys := [.string q.carrier, .int .i64 q.number, .string q.suffix, .int .i64 q.day]) ho hy hz (fun w => run_tyn25 _ _ _ _ w) (fun w => run_neq25 p q w) rfl
theorem op_neq35 {p q : Piece} (ho : o.op = .binOp .neq 35 y z yt) (hy : ev y = .agg p.av) (hz : ev z = .agg q.av) : OpP ⟨Tryz.prog, S0, own0, v0, w0⟩ o ev T (.v (.bool (!piEq p q))) :=
 op_bin_agg (xs := [.int .i64 p.plate.lead, .int .i64 p.plate.airline, .int .i64 p.plate.serial, .int .i64 p.weight, .int .i64 p.category]) (ys := [.int .i64 q.plate.lead, .int .i64 q.plate.airline, .int .i64 q.plate.serial, .int .i64 q.weight, .int .i64 q.category]) ho hy hz (fun w => run_tyn35 _ _ _ _ w) (fun w => run_neq35 p q w) rfl
end
set_option maxRecDepth 100000
def headNe (c d : Container) : Bool := ((((((!decide (c.number = d.number) || !flEq c.flight d.flight) || !decide (c.categories = d.categories)) || !decide (c.limit = d.limit)) || !decide (c.most = d.most)) || !decide (c.position = d.position)) || !decide (c.arm = d.arm)) || !decide ((c.pieces.length : Int) = (d.pieces.length : Int))
def sameC (c d : Container) : Bool := !headNe c d && (List.range c.pieces.length).all fun i => piEq (c.pieces.getD i default) (d.pieces.getD i default)
theorem all_range_no {n i : Nat} {f : Nat → Bool} (h : i < n) (hf : f i = false) : (List.range n).all f = false := by
 rw [List.all_eq_false]
 exact ⟨i, List.mem_range.2 h, by rw [hf]; simp⟩
theorem all_range_yes {n i : Nat} {f : Nat → Bool} (h : ¬ i < n) (hf : ∀ k, k < i → f k = true) : (List.range n).all f = true := by
 rw [List.all_eq_true]
 intro k hk
 exact hf k (by have := List.mem_range.1 hk; omega)
theorem all_b_step {f : Nat → Bool} {i : Nat} (h : ∀ k, k < i → f k = true) (h2 : f i = true) : ∀ k, k < i + 1 → f k = true := fun k hk => by
 by_cases e : k = i
 · rw [e, h2]
 exact h k (by omega)
theorem C53 {c d : Container} (hcc : c.pieces.length ≤ 1000000000) : Fn Tryz.prog 53 [] [.agg c.av, .agg d.av] [.v (.bool (sameC c d))] [] := by
 refine Spec.body Tryz.func53 rfl Tryz.ntmps53 (by simp) rfl ?_; intro S0 own0 v0 w0
 refine zA fun K hK => zB ?_
 refine yD (yO rfl rfl rfl yH rfl) ?_; simp only [nA, Nat.reduceBEq, Nat.reduceEqDiff, ↓reduceIte]
 refine yD (yO rfl rfl rfl yH rfl) ?_; simp only [nA, Nat.reduceBEq, Nat.reduceEqDiff, ↓reduceIte]
 refine zF (zD rfl rfl) ?_
 refine zE (hK _ ?_); clear hK K; try simp only [nA, Nat.reduceBEq, Nat.reduceEqDiff, ↓reduceIte, Nat.reduceAdd, Nat.reduceSub]
 refine zA fun K hK => ?_
 refine zA fun K hK => zB (yS ?_)
 refine zQ (zH rfl rfl rfl fl33_0 (by exact sz3) (by decide) rfl) ?_
 refine aqR (zG rfl rfl rfl rfl ag3 rfl rfl) ?_
 refine zQ (zH rfl rfl rfl fl33_0 (by exact sz3) (by decide) rfl) ?_
 refine aqR (zG rfl rfl rfl rfl ag3 rfl rfl) ?_
 refine zQ (op_neq rfl rfl rfl) ?_
 refine zQ (zC rfl rfl) ?_
 refine' aqOr' [_, _, _, _, _] [12,13,14,15,16] rfl rfl rfl rfl rfl rfl rfl rfl rfl rfl rfl rfl (fun hb => ?_) ?_; rotate_left
 ·
  (try simp only [z7] at hb)
  refine zQ (zH rfl rfl rfl fl33_1 (by exact sz25) (by decide) rfl) ?_
  refine aqR (zK rfl rfl rfl rfl ag25 sz25 (bl rfl) rfl) ?_
  refine zQ (zH rfl rfl rfl fl33_1 (by exact sz25) (by decide) rfl) ?_
  refine aqR (zK rfl rfl rfl rfl ag25 sz25 (bl rfl) rfl) ?_
  refine zQ (op_neq25 rfl rfl rfl) ?_; simp only [nA]
  (refine yL rfl rfl rfl ?_; repeat (first | exact fun _ _ => rfl | refine zU rfl ?_))
 simp only [nA]
 refine zQ (zC rfl rfl) ?_
 refine' aqOr' [_, _, _, _, _] [19,20,21,22,23] rfl rfl rfl rfl rfl rfl rfl rfl rfl rfl rfl rfl (fun hb => ?_) ?_; rotate_left
 ·
  (try simp only [z7] at hb)
  refine zQ (zH rfl rfl rfl fl33_2 (by exact sz3) (by decide) rfl) ?_
  refine aqR (zG rfl rfl rfl rfl ag3 rfl rfl) ?_
  refine zQ (zH rfl rfl rfl fl33_2 (by exact sz3) (by decide) rfl) ?_
  refine aqR (zG rfl rfl rfl rfl ag3 rfl rfl) ?_
  refine zQ (op_neq rfl rfl rfl) ?_
  (refine yL rfl rfl rfl ?_; repeat (first | exact fun _ _ => rfl | refine zU rfl ?_))
 simp only [nA]
 refine zQ (zC rfl rfl) ?_
 refine' aqOr' [_, _, _, _, _] [26,27,28,29,30] rfl rfl rfl rfl rfl rfl rfl rfl rfl rfl rfl rfl (fun hb => ?_) ?_; rotate_left
 ·
  (try simp only [z7] at hb)
  refine zQ (zH rfl rfl rfl fl33_3 (by exact sz3) (by decide) rfl) ?_
  refine aqR (zG rfl rfl rfl rfl ag3 rfl rfl) ?_
  refine zQ (zH rfl rfl rfl fl33_3 (by exact sz3) (by decide) rfl) ?_
  refine aqR (zG rfl rfl rfl rfl ag3 rfl rfl) ?_
  refine zQ (op_neq rfl rfl rfl) ?_
  (refine yL rfl rfl rfl ?_; repeat (first | exact fun _ _ => rfl | refine zU rfl ?_))
 simp only [nA]
 refine zQ (zC rfl rfl) ?_
 refine' aqOr' [_, _, _, _, _] [33,34,35,36,37] rfl rfl rfl rfl rfl rfl rfl rfl rfl rfl rfl rfl (fun hb => ?_) ?_; rotate_left
 ·
  (try simp only [z7] at hb)
  refine zQ (zH rfl rfl rfl fl33_4 (by exact sz3) (by decide) rfl) ?_
  refine aqR (zG rfl rfl rfl rfl ag3 rfl rfl) ?_
  refine zQ (zH rfl rfl rfl fl33_4 (by exact sz3) (by decide) rfl) ?_
  refine aqR (zG rfl rfl rfl rfl ag3 rfl rfl) ?_
  refine zQ (op_neq rfl rfl rfl) ?_
  (refine yL rfl rfl rfl ?_; repeat (first | exact fun _ _ => rfl | refine zU rfl ?_))
 simp only [nA]
 refine zQ (zC rfl rfl) ?_
 refine' aqOr' [_, _, _, _, _] [40,41,42,43,44] rfl rfl rfl rfl rfl rfl rfl rfl rfl rfl rfl rfl (fun hb => ?_) ?_; rotate_left
 ·
  (try simp only [z7] at hb)
  refine zQ (zH rfl rfl rfl fl33_5 (by exact sz3) (by decide) rfl) ?_
  refine aqR (zG rfl rfl rfl rfl ag3 rfl rfl) ?_
  refine zQ (zH rfl rfl rfl fl33_5 (by exact sz3) (by decide) rfl) ?_
  refine aqR (zG rfl rfl rfl rfl ag3 rfl rfl) ?_
  refine zQ (op_neq rfl rfl rfl) ?_
  (refine yL rfl rfl rfl ?_; repeat (first | exact fun _ _ => rfl | refine zU rfl ?_))
 simp only [nA]
 refine zQ (zC rfl rfl) ?_
 refine' aqOr' [_, _, _, _, _] [47,48,49,50,51] rfl rfl rfl rfl rfl rfl rfl rfl rfl rfl rfl rfl (fun hb => ?_) ?_; rotate_left
 ·
  (try simp only [z7] at hb)
  refine zQ (zH rfl rfl rfl fl33_6 (by exact sz3) (by decide) rfl) ?_
  refine aqR (zG rfl rfl rfl rfl ag3 rfl rfl) ?_
  refine zQ (zH rfl rfl rfl fl33_6 (by exact sz3) (by decide) rfl) ?_
  refine aqR (zG rfl rfl rfl rfl ag3 rfl rfl) ?_
  refine zQ (op_neq rfl rfl rfl) ?_
  (refine yL rfl rfl rfl ?_; repeat (first | exact fun _ _ => rfl | refine zU rfl ?_))
 simp only [nA]
 refine zQ (zC rfl rfl) ?_
 refine' aqOr' [_, _, _, _, _, _, _] [54,55,56,57,58,59,60] rfl rfl rfl rfl rfl rfl rfl rfl rfl rfl rfl rfl (fun hb => ?_) ?_; rotate_left
 ·
  (try simp only [z7] at hb)
  refine zQ (zH rfl rfl rfl fl33_7 (by exact sz31) (by decide) rfl) ?_
  refine aqR (zG rfl rfl rfl rfl ag31 rfl rfl) ?_
  refine zQ (zX rfl rfl Tryz.underlying31 (by exact .inr (.inl ⟨_, rfl, rfl⟩))) ?_
  refine zQ (zH rfl rfl rfl fl33_7 (by exact sz31) (by decide) rfl) ?_
  refine aqR (zG rfl rfl rfl rfl ag31 rfl rfl) ?_
  refine zQ (zX rfl rfl Tryz.underlying31 (by exact .inr (.inl ⟨_, rfl, rfl⟩))) ?_
  refine zQ (op_neq rfl rfl rfl) ?_
  (refine yL rfl rfl rfl ?_; repeat (first | exact fun _ _ => rfl | refine zU rfl ?_))
 simp only [nA]
 refine yN (hK _ ?_); clear hK K
 refine zL rfl rfl rfl (fun hc => ?_) (fun hc => ?_)
 ·
  have hc1 := hc
  refine zA fun K hK => zB ?_
  refine zF (zD rfl rfl) ?_
  refine zE (hK _ ?_); clear hK K; try simp only [nA, Nat.reduceBEq, Nat.reduceEqDiff, ↓reduceIte, Nat.reduceAdd, Nat.reduceSub]
  skip
  refine zO ?_; (try simp only [zI, zJ, Nat.reduceEqDiff, ↓reduceIte]); rw [show sameC c d = false by unfold sameC; rw [show headNe c d = true from hc1]; rfl]; exact zS rfl (.tmp (bl rfl) rfl rfl .nil)
 have hc1 := hc
 refine zM ?_
 refine hK _ ?_; clear hK K
 refine zA fun K hK => ?_
 refine zA fun K hK => zB ?_
 refine zF (zD rfl rfl) ?_
 refine zE (hK _ ?_); clear hK K; try simp only [nA, Nat.reduceBEq, Nat.reduceEqDiff, ↓reduceIte, Nat.reduceAdd, Nat.reduceSub]
 refine zN ?_
 have hh : headNe c d = false := hc1; have hle : c.pieces.length = d.pieces.length := (by unfold headNe at hh; simp at hh; omega); refine yC (fun i => [(2, .ptr 0 1 0 0), (3, .ptr 1 2 0 0), (5, .v (.int .i64 (i : Nat)))]) (fun i => ⟨[(1, .own 33 [c.av]), (2, .own 33 [d.av])], 3⟩) (fun i => i ≤ c.pieces.length ∧ ∀ k, k < i → piEq (c.pieces.getD k default) (d.pieces.getD k default) = true) (fun i => c.pieces.length - i) 0 (by simp) ⟨rfl, rfl, rfl, trivial⟩ rfl ?_; intro i ρ hi; simp only [updL]
 refine zA fun K hK => ?_
 refine zA fun K hK => zB ?_
 refine zF (zC rfl rfl) ?_
 refine zF (zH rfl rfl rfl fl33_7 (by exact sz31) (by decide) rfl) ?_
 refine awR (zG rfl rfl rfl rfl ag31 rfl rfl) ?_
 refine zF (zX rfl rfl Tryz.underlying31 (by exact .inr (.inl ⟨_, rfl, rfl⟩))) ?_
 refine zF (yP rfl rfl rfl) ?_
 refine zE (hK _ ?_); clear hK K; simp only [nA, ↓reduceIte]
 refine zL rfl rfl rfl (fun hc => ?_) (fun hc => ?_)
 ·
  have hc2 := hc; have hlt : i < c.pieces.length := (by simpa using hc2)
  refine zM ?_
  refine hK _ ?_; clear hK K
  refine zA fun K hK => zN ?_
  refine zA fun K hK => ?_
  refine AW.quiet mix (by kernel_rfl) ?_
  refine zQ (zH rfl rfl rfl fl33_7 (by exact sz31) (by decide) rfl) ?_
  refine aqR (zG rfl rfl rfl rfl ag31 rfl rfl) ?_
  refine zQ (zC rfl rfl) ?_
  refine zQ (zW i rfl (.inl rfl) rfl Tryz.underlying31 rfl (yF (by omega)) (by exact yR) (bl rfl)) ?_
  refine aqR (zY rfl rfl ag35 yR (bl rfl) (by decide) rfl) ?_
  refine zQ (zH rfl rfl rfl fl33_7 (by exact sz31) (by decide) rfl) ?_
  refine aqR (zG rfl rfl rfl rfl ag31 rfl rfl) ?_
  refine zQ (zC rfl rfl) ?_
  refine zQ (zW i rfl (.inl rfl) rfl Tryz.underlying31 rfl (yF (by omega)) (by exact yR) (bl rfl)) ?_
  refine aqR (zY rfl rfl ag35 yR (bl rfl) (by decide) rfl) ?_
  refine zQ (op_neq35 rfl rfl rfl) ?_; simp only [nA, ↓reduceIte]
  refine yN (hK _ ?_); clear hK K
  refine zL rfl rfl rfl (fun hc => ?_) (fun hc => ?_)
  ·
   have hc3 := hc
   refine zA fun K hK => zB ?_
   refine zF (zD rfl rfl) ?_
   refine zE (hK _ ?_); clear hK K; try simp only [nA, Nat.reduceBEq, Nat.reduceEqDiff, ↓reduceIte, Nat.reduceAdd, Nat.reduceSub]
   skip
   refine zO ?_; (try simp only [zI, zJ, Nat.reduceEqDiff, ↓reduceIte]); rw [show sameC c d = false by unfold sameC; rw [all_range_no hlt (by simpa using hc3)]; simp]; exact zS rfl (.tmp (bl rfl) rfl rfl .nil)
  have hc3 := hc
  refine zM ?_
  (try simp only [zI, zJ, Nat.reduceEqDiff, ↓reduceIte])
  refine hK _ ?_; clear hK K
  refine zB ?_
  refine zF (zC rfl rfl) ?_
  refine zF (zR rfl rfl rfl (by omega)) ?_
  refine zF (zD rfl rfl) ?_
  skip
  refine zE ?_
  refine ⟨i + 1, ⟨by omega, all_b_step hi.2 (by simpa using hc3)⟩, by omega, ⟨rfl, rfl, rfl, trivial⟩, (by rfl), (by rfl)⟩
 have hc2 := hc; have hnl : ¬ i < c.pieces.length := (by simpa using hc2)
 refine yE ?_; try simp only [zI, zJ, Nat.reduceEqDiff, ↓reduceIte]
 clear hK K
 refine hK _ ?_; clear hK K
 refine zA fun K hK => zB ?_
 refine zF (zD rfl rfl) ?_
 refine zE (hK _ ?_); clear hK K; try simp only [nA, Nat.reduceBEq, Nat.reduceEqDiff, ↓reduceIte, Nat.reduceAdd, Nat.reduceSub]
 skip
 refine zO ?_; (try simp only [zI, zJ, Nat.reduceEqDiff, ↓reduceIte]); rw [show sameC c d = true by unfold sameC; rw [hh, all_range_yes hnl hi.2]; rfl]; exact zS rfl (.tmp (bl rfl) rfl rfl .nil)
set_option maxRecDepth 100000
abbrev flight0 : Flight := ⟨⟨#[66, 65]⟩, 1, ⟨#[]⟩, 1⟩
abbrev pieceP (i w : Int) : Piece := ⟨yT i, w, 0⟩
abbrev emptyC : Container := ⟨7, flight0, 1, 100, 3, 0, 0, []⟩
set_option maxRecDepth 100000
theorem val_intro {c : Container} (h1 : coB c = true) (h2 : c.pieces.length ≤ 60) (h3 : ∀ p ∈ c.pieces, piB p = true) (h4 : Asc c.pieces) : valC c = 0 := by
 refine val_ok (i := c.pieces.length) h1 h2 (by omega) fun k hk => ?_
 rw [errI_at hk, if_neg (by rw [h3 _ (List.getElem_mem hk)]; simp)]
 split
 · rfl
 rename_i h0
 have := h4 (k - 1) k (by omega) hk (by omega)
 rcases cmpP_cases c.pieces[k - 1].plate c.pieces[k].plate with ⟨_, e⟩ | ⟨h, _⟩ | ⟨h, _⟩
 · rw [if_neg (by omega), if_neg (by omega)]
 · rw [h] at this; exact absurd this (PLt.irrefl _)
 exact absurd (this.trans h) (PLt.irrefl _)
theorem Asc.snoc {l : List Piece} {p : Piece} (h : Asc l) (hp : ∀ x ∈ l, PLt x.plate p.plate) : Asc (l ++ [p]) := by
 intro i j hi hj hij
 have hjl : j ≤ l.length := by simp at hj; omega
 have hil : i < l.length := by omega
 rw [List.getElem_append_left hil]
 by_cases e : j < l.length
 · rw [List.getElem_append_left e]; exact h i j hil e hij
 rw [List.getElem_append_right (by omega)]
 simp
 exact hp _ (List.getElem_mem hil)
theorem pos_end {l : List Piece} {p : Plate} (hp : ∀ x ∈ l, PLt x.plate p) : posP l p = l.length :=
 pos_eq (Nat.le_refl _) (fun i h _ => cmpP_lt.2 (hp _ (List.getElem_mem h))) fun i h h' => by omega
theorem found_end {l : List Piece} {p : Plate} (hp : ∀ x ∈ l, PLt x.plate p) : foundP l p = false := by
 unfold foundP
 rw [pos_end hp]
 simp
theorem plates_lt {i : Nat} (h : i < 100) : yT i = ⟨0, 117, 1000 + i⟩ := by
 have e : gmod (i : Int) 1000 = i := by
   unfold gmod
   rw [if_neg (by omega), Int.tmod_eq_emod_of_nonneg (by omega), Int.emod_eq_of_lt (by omega) (by omega), if_neg (by omega)]
 unfold yT
 rw [e]
 congr 1 <;> omega
structure Good (i : Nat) (c : Container) : Prop where
 val : valC c = 0
 len : c.pieces.length = i
 below : ∀ x ∈ c.pieces, x.plate.lead = 0 ∧ x.plate.airline = 117 ∧ x.plate.serial < 1000 + i ∧ x.category = 0
 most : c.most = 3
 cat : c.categories = 1
theorem Good.zero : Good 0 emptyC := ⟨by kernel_rfl, rfl, by simp, rfl, rfl⟩
theorem Good.step {i : Nat} {c : Container} {w : Int} (h : Good i c) (hi : i < 20) (hw : 1 ≤ w ∧ w ≤ 999) :
   (putC c (pieceP i w) false).2 = 0 ∧ Good (i + 1) (putC c (pieceP i w) false).1 ∧ weightC (putC c (pieceP i w) false).1 = weightC c + w := by
 have hv := val_inv h.val
 have hpl := plates_lt (i := i) (by omega)
 have hlt : ∀ x ∈ c.pieces, PLt x.plate (yT i) := fun x hx => by
   obtain ⟨h1, h2, h3, _⟩ := h.below x hx
   rw [hpl]
   unfold PLt
   simp only
   omega
 have hpi : piB (pieceP i w) = true := by
   unfold piB plB inB
   rw [show (pieceP (i : Int) w).plate = ⟨0, 117, 1000 + i⟩ from hpl]
   simp
   omega
 have hlen := h.len
 have e : putC c (pieceP i w) false = (insC c (pieceP i w), 0) := by
   unfold putC
   rw [if_neg (by simp [h.val]), if_neg (by simp [hpi]), if_neg (by rw [found_end hlt]; simp), if_neg (by simp), if_neg (by simp), if_neg (by omega)]
 have e2 : (insC c (pieceP i w)).pieces = c.pieces ++ [pieceP i w] := by
   unfold insC
   simp only
   rw [pos_end hlt]
   simp
 have hval : valC (insC c (pieceP i w)) = 0 := by
   refine val_intro hv.1 (by rw [e2]; simp; omega) (fun p hp => ?_) (by rw [e2]; exact hv.2.2.2.snoc hlt)
   rw [e2] at hp
   rcases List.mem_append.1 hp with hp | hp
   · exact hv.2.2.1 p hp
   have : p = pieceP i w := by simpa using hp
   rw [this]; exact hpi
 rw [e]
 refine ⟨rfl, ⟨hval, by simp only; rw [e2]; simp; omega, fun x hx => ?_, h.most, h.cat⟩, ?_⟩
 · simp only at hx
   rw [e2] at hx
   rcases List.mem_append.1 hx with hx | hx
   · obtain ⟨h1, h2, h3, h4⟩ := h.below x hx
     exact ⟨h1, h2, by omega, h4⟩
   have : x = pieceP i w := by simpa using hx
   rw [this]
   rw [show (pieceP (i : Int) w).plate = ⟨0, 117, 1000 + i⟩ from hpl]
   exact ⟨rfl, rfl, by dsimp only; omega, rfl⟩
 unfold weightC
 rw [if_neg (by simp [hval]), if_neg (by simp [h.val])]
 simp only
 rw [e2]
 simp [sumW]
theorem Good.weight {i : Nat} {c : Container} (h : Good i c) (hi : i ≤ 20) : 0 ≤ weightC c ∧ weightC c ≤ 20000 := by
 unfold weightC
 rw [if_neg (by simp [h.val])]
 have := sum_bd c.pieces (val_w h.val)
 have := h.len
 omega
theorem Good.over {c : Container} (h : Good 20 c) : overC c = true := by
 unfold overC
 rw [if_neg (by simp [h.val])]
 split
 · rfl
 rw [h.most, h.len]
 simp
set_option maxRecDepth 100000
def insL (l : List Piece) (p : Piece) : List Piece := l.take (posP l p.plate) ++ p :: l.drop (posP l p.plate)
theorem insL_perm (l : List Piece) (p : Piece) : (insL l p).Perm (p :: l) := by
 unfold insL
 have h : (l.take (posP l p.plate) ++ p :: l.drop (posP l p.plate)).Perm (p :: (l.take (posP l p.plate) ++ l.drop (posP l p.plate))) := List.perm_middle
 rwa [List.take_append_drop] at h
def AscP (l : List Piece) : Prop := l.Pairwise fun a b => PLt a.plate b.plate
theorem ascP_iff {l : List Piece} : AscP l ↔ Asc l := by
 unfold AscP Asc
 rw [List.pairwise_iff_getElem]
theorem ascP_perm : ∀ {l m : List Piece}, AscP l → AscP m → l.Perm m → l = m
 | [], m, _, _, h => (List.nil_perm.1 h).symm
 | a :: l, [], _, _, h => by have := h.length_eq; simp at this
 | a :: l, b :: m, hl, hm, h => by
   have hla := List.pairwise_cons.1 hl
   have hmb := List.pairwise_cons.1 hm
   have e : a = b := by
     have h1 : a ∈ b :: m := h.mem_iff.1 (by simp)
     have h2 : b ∈ a :: l := h.mem_iff.2 (by simp)
     rcases List.mem_cons.1 h1 with h1 | h1
     · exact h1
     rcases List.mem_cons.1 h2 with h2 | h2
     · exact h2.symm
     exact absurd ((hmb.1 a h1).trans (hla.1 b h2)) (PLt.irrefl _)
   subst e
   rw [ascP_perm hla.2 hmb.2 (List.perm_cons a |>.1 h)]
theorem posP_cons (a : Piece) (l : List Piece) (p : Plate) : posP (a :: l) p = if cmpP a.plate p < 0 then posP l p + 1 else 0 := by
 unfold posP
 rw [List.takeWhile_cons]
 by_cases h : cmpP a.plate p < 0
 · rw [if_pos h, if_pos (by simpa using h)]; rfl
 rw [if_neg h, if_neg (by simpa using h)]; rfl
theorem insL_cons (a : Piece) (l : List Piece) (p : Piece) : insL (a :: l) p = if cmpP a.plate p.plate < 0 then a :: insL l p else p :: a :: l := by
 unfold insL
 rw [posP_cons]
 by_cases h : cmpP a.plate p.plate < 0
 · rw [if_pos h, if_pos h]; rfl
 rw [if_neg h, if_neg h]; rfl
theorem plt_of {p q : Plate} (h : ¬ cmpP p q < 0) (hne : p ≠ q) : PLt q p := by
 rcases cmpP_cases p q with ⟨_, e⟩ | ⟨e, _⟩ | ⟨h, _⟩
 · omega
 · exact absurd e hne
 exact h
theorem insL_asc : ∀ {l : List Piece} {p : Piece}, AscP l → (∀ x ∈ l, x.plate ≠ p.plate) → AscP (insL l p)
 | [], p, _, _ => by unfold insL AscP; simp [posP]
 | a :: l, p, h, hne => by
   have ha := List.pairwise_cons.1 h
   rw [insL_cons]
   split
   · rename_i hc
     refine List.pairwise_cons.2 ⟨fun x hx => ?_, insL_asc ha.2 fun x hx => hne x (by simp [hx])⟩
     rcases List.mem_cons.1 ((insL_perm l p).mem_iff.1 hx) with rfl | hx
     · exact cmpP_lt.1 hc
     exact ha.1 x hx
   rename_i hc
   have hpa := plt_of hc (hne a (by simp))
   refine List.pairwise_cons.2 ⟨fun x hx => ?_, h⟩
   rcases List.mem_cons.1 hx with rfl | hx
   · exact hpa
   exact hpa.trans (ha.1 x hx)
theorem found_no : ∀ {l : List Piece} {p : Plate}, (∀ x ∈ l, x.plate ≠ p) → foundP l p = false := by
 intro l p h
 unfold foundP
 by_cases hl : posP l p < l.length
 · have : (l.getD (posP l p) default).plate ≠ p := by
     rw [List.getD_eq_getElem?_getD, List.getElem?_eq_getElem hl]
     exact h _ (List.getElem_mem hl)
   rw [show decide ((l.getD (posP l p) default).plate = p) = false from decide_eq_false this, Bool.and_false]
 rw [show decide ((posP l p : Int) < (l.length : Int)) = false from decide_eq_false (by omega)]; rfl
/-- The container of the examples, with pieces. -/
abbrev withP (m : List Piece) : Container := ⟨7, flight0, 1, 100, 3, 0, 0, m⟩
set_option maxRecDepth 100000
/-- What is told of a slice of integers that came in. -/
def IsRow (k : IntKind) (w : World) (a : Option Addr) (len cap : Nat) (zs : List Int) : Prop :=
 (a = none ∧ len = 0 ∧ cap = 0 ∧ zs = []) ∨
 ∃ x, a = some x ∧ len ≤ cap ∧ cap ≤ maxLen ∧ zs.length = cap ∧ (∀ i, i < zs.length → w.cell? (x.add i) = some (.int k (zs.getD i 0))) ∧ ∀ n ∈ zs, (Lit.int k n).wf = true
theorem flat_iv : ∀ l : List Int, (l.map iv).flatten = l.map fun n => AV.v (.int .i64 n)
 | [] => rfl
 | n :: l => by rw [List.map_cons, List.flatten_cons, flat_iv l]; rfl
theorem IsRow.av {w : World} {a : Option Addr} {len cap : Nat} {zs : List Int} (h : IsRow .i64 w a len cap zs) :
   AggOK Tryz.prog (fun k => k < w.heap.size) w (insT []) [] (.slice a len cap) (.ro ((zs.take len).map iv)) := by
 rcases h with ⟨rfl, rfl, rfl, rfl⟩ | ⟨x, rfl, h1, h2, h3, h4, h5⟩
 · exact rep_ro_nil
 have hl : (zs.take len).length = len := by rw [List.length_take]; omega
 have hget : ∀ j u, ((zs.take len).map fun n => Value.int .i64 n)[j]? = some u → w.cell? (x.add j) = some u := fun j u hu => by
   rw [List.getElem?_map, List.getElem?_take] at hu
   split at hu
   · have hj : j < zs.length := by omega
     rw [h4 j hj]
     rw [List.getElem?_eq_getElem hj] at hu
     simp at hu
     rw [← hu]
     simp [hj]
   simp at hu
 have hrep : Rep Tryz.prog (fun k => k < w.heap.size) w [] (.slice (some x) ((zs.take len).map iv).length cap) (.ro ((zs.take len).map iv)) := by
   refine Rep.ro (us := (zs.take len).map fun n => Value.int .i64 n) (sz := 1) (by rw [List.length_map, hl]; exact h1) h2 (iv_len _) (fun hn => ?_) (by rw [flat_iv, List.length_map, List.length_map]) fun i u y hu hy => ?_
   · have h0 := hget 0 _ (List.getElem?_eq_getElem hn)
     obtain ⟨g, o, sp⟩ := x
     have : sp = none := by simpa [Addr.add] using World.cell?_spot h0
     subst this
     refine ⟨g, o, rfl, World.block_lt_of_cell? w _ h0, fun j u hu => ?_⟩
     have := hget j u hu
     rw [add_off] at this
     exact this
   rw [flat_iv, List.getElem?_map] at hy
   rw [List.getElem?_map] at hu
   cases hq : (zs.take len)[i]? with
   | none => rw [hq] at hu; cases hu
   | some n =>
     rw [hq] at hu hy
     simp only [Option.map_some, Option.some.injEq] at hu hy
     subst hu; subst hy
     exact Rep.v rfl
 rw [List.length_map, hl] at hrep
 exact hrep
set_option maxRecDepth 100000
/-- What has been gathered before round i. -/
structure Pcs (i : Nat) (m : List Piece) : Prop where
 asc : AscP m
 ok : ∀ x ∈ m, piB x = true
 below : ∀ x ∈ m, x.plate.lead = 0 ∧ x.plate.airline = 117 ∧ x.plate.serial < 1000 + i
 len : m.length ≤ i
theorem Pcs.zero : Pcs 0 [] := ⟨List.Pairwise.nil, by simp, by simp, by simp⟩
theorem Pcs.skip {i : Nat} {m : List Piece} (h : Pcs i m) : Pcs (i + 1) m :=
 ⟨h.asc, h.ok, fun x hx => by have := h.below x hx; omega, by have := h.len; omega⟩
theorem Pcs.add {i : Nat} {m : List Piece} {w c : Int} (h : Pcs i m) (hi : i < 12) (hw : 1 ≤ w ∧ w ≤ 30) (hc : 0 ≤ c ∧ c ≤ 4) : Pcs (i + 1) (m ++ [⟨yT i, w, c⟩]) := by
 have hpl := plates_lt (i := i) (by omega)
 refine ⟨?_, fun x hx => ?_, fun x hx => ?_, by have := h.len; simp; omega⟩
 · refine List.pairwise_append.2 ⟨h.asc, List.pairwise_singleton _ _, fun a ha b hb => ?_⟩
   obtain rfl : b = _ := by simpa using hb
   obtain ⟨h1, h2, h3⟩ := h.below a ha
   show PLt a.plate (yT i)
   rw [hpl]
   unfold PLt
   simp only
   omega
 · rcases List.mem_append.1 hx with hx | hx
   · exact h.ok x hx
   obtain rfl : x = _ := by simpa using hx
   unfold piB plB inB
   rw [hpl]
   simp
   omega
 rcases List.mem_append.1 hx with hx | hx
 · have := h.below x hx; omega
 obtain rfl : x = _ := by simpa using hx
 rw [hpl]
 exact ⟨rfl, rfl, by dsimp only; omega⟩
/-- What is forced, and what remains. -/
structure Rst (m c rest : List Piece) : Prop where
 asc : AscP c
 perm : (c ++ rest).Perm m
theorem Rst.zero (m : List Piece) : Rst m [] m := ⟨List.Pairwise.nil, by simp⟩
theorem Rst.len {m c rest : List Piece} (h : Rst m c rest) : c.length + rest.length = m.length := by
 have := h.perm.length_eq
 rwa [List.length_append] at this
theorem Rst.fin {m c : List Piece} (hm : Pcs 12 m) (h : Rst m c []) : c = m := by
 have := h.perm
 rw [List.append_nil] at this
 exact ascP_perm h.asc hm.asc this
theorem piEq_self (p : Piece) : piEq p p = true := by unfold piEq; simp
theorem sameC_self (c : Container) : sameC c c = true := by
 unfold sameC headNe
 rw [show flEq c.flight c.flight = true by unfold flEq; simp]
 simp [piEq_self]
set_option maxRecDepth 100000
def delC (c : Container) (p : Plate) : Container := { c with pieces := c.pieces.take (posP c.pieces p) ++ c.pieces.drop (posP c.pieces p + 1) }
def remC (c : Container) (p : Plate) : Container × Int :=
 if valC c ≠ 0 then (zeroC, valC c) else if foundP c.pieces p = false then (zeroC, 6) else (delC c p, 0)
set_option maxRecDepth 100000
theorem iv_flat (l : List Int) : ∀ r ∈ l.map iv, ∀ c ∈ r, flatA c = true := fun r hr c hc => by
 obtain ⟨p, _, rfl⟩ := List.mem_map.1 hr
 obtain rfl : c = _ := by simpa using hc
 rfl
def yI (l : List Int) (k : Nat) (xs : List Int) : Int := xs.getD (gmod (rawV l k) (xs.length : Nat)).toNat default
theorem pickV_mem {l : List Int} {k : Nat} {xs : List Int} (h : 1 ≤ xs.length) : yI l k xs ∈ xs := by
 have hg := gmod_bd (x := rawV l k) (n := (xs.length : Nat)) (by omega)
 unfold yI
 rw [List.getD_eq_getElem?_getD, List.getElem?_eq_getElem (by omega)]
 exact List.getElem_mem _
theorem C29 {l : List Int} {k : Nat} {xs : List Int} (hl : l.length ≤ 2000) (h1 : 1 ≤ xs.length) (h2 : xs.length ≤ 1000) : Fn Tryz.prog 29 [.own 67 [srcRow l k]] [.ptr 0 0 0 0, .ro (xs.map iv)] [.v (.int .i64 (yI l k xs))] [.own 67 [srcRow l (zP l k)]] := by
 have hg := gmod_bd (x := rawV l k) (n := (xs.length : Nat)) (by omega)
 refine Spec.body Tryz.func29 rfl Tryz.ntmps29 (by simp) rfl ?_; intro S0 own0 v0 w0
 refine zA fun K hK => zB ?_
 refine zF (zD rfl rfl) ?_; try simp only [nA, Nat.reduceBEq, Nat.reduceEqDiff, ↓reduceIte, Nat.reduceAdd, Nat.reduceSub]
 refine zE (hK _ ?_); clear hK K; try simp only [nA, Nat.reduceBEq, Nat.reduceEqDiff, ↓reduceIte, Nat.reduceAdd, Nat.reduceSub]
 refine zA fun K hK => zB ?_
 refine zF (zC rfl rfl) ?_; simp only [nA, ↓reduceIte]
 refine zF (zC rfl rfl) ?_; simp only [nA, ↓reduceIte]
 refine zF (zC rfl rfl) ?_; simp only [nA, ↓reduceIte]
 (refine zF (zX rfl rfl Tryz.underlying36 (by exact .inr (.inl ⟨_, rfl, rfl⟩))) ?_); try simp only [nA, Nat.reduceBEq, Nat.reduceEqDiff, ↓reduceIte, Nat.reduceAdd, Nat.reduceSub]
 refine yD (yQ rfl en18 (C18 hl (n := (xs.length : Nat)) (by omega)) (by exact rfl) (RL.cons .ptr (RL.cons (.base (by exact View.same rfl)) (RL.nil))) (by exact ⟨_, _, _, rfl, rfl, rfl⟩) (by exact rfl) (by exact rfl) (by exact rfl)) ?_; try simp only [nA, Nat.reduceBEq, Nat.reduceEqDiff, ↓reduceIte, Nat.reduceAdd, Nat.reduceSub]
 (refine zF (zW (gmod (rawV l k) (xs.length : Nat)).toNat rfl (.inl rfl) rfl Tryz.underlying36 (by omega) (yF (by omega)) (by exact sz3) (bl rfl)) ?_); try simp only [nA, Nat.reduceBEq, Nat.reduceEqDiff, ↓reduceIte, Nat.reduceAdd, Nat.reduceSub]
 (refine awR (yA rfl rfl ag3) ?_); try simp only [nA, Nat.reduceBEq, Nat.reduceEqDiff, ↓reduceIte, Nat.reduceAdd, Nat.reduceSub]
 refine zF (zD rfl rfl) ?_; simp only [nA]
 refine zE (hK _ ?_); clear hK K
 skip
 refine zO ?_; (try simp only [zI, zJ, Nat.reduceEqDiff, ↓reduceIte]); exact RQ.of (.inl rfl) rfl (.tmp (bl rfl) rfl rfl .nil) (by simp) rfl (one_out rfl)
theorem C31 {l : List Int} {k : Nat} {n : Int} (hl : l.length ≤ 2000) (hn : n ≤ 9223372036854775807) : Fn Tryz.prog 31 [.own 67 [srcRow l k]] [.ptr 0 0 0 0, .v (.int .i64 n)] [.agg (yT (gmod (rawV l k) n)).av] [.own 67 [srcRow l (zP l k)]] := by
 refine Spec.body Tryz.func31 rfl Tryz.ntmps31 (by simp) rfl ?_; intro S0 own0 v0 w0
 refine zA fun K hK => zB ?_
 refine yD (op_alloc rfl ze23 rfl) ?_; simp only [nA, Nat.reduceBEq, Nat.reduceEqDiff, ↓reduceIte]
 refine zE (hK _ ?_); clear hK K; try simp only [nA, Nat.reduceBEq, Nat.reduceEqDiff, ↓reduceIte, Nat.reduceAdd, Nat.reduceSub]
 refine zA fun K hK => zB ?_
 refine zF (zC rfl rfl) ?_; simp only [nA, ↓reduceIte]
 refine zF (zC rfl rfl) ?_; simp only [nA, ↓reduceIte]
 refine yD (yQ rfl en18 (C18 hl hn) (by exact rfl) (RL.cons .ptr (RL.cons (.base (by exact View.same rfl)) (RL.nil))) (by exact ⟨_, _, _, rfl, rfl, rfl⟩) (by exact rfl) (by exact rfl) (by exact rfl)) ?_; try simp only [nA, Nat.reduceBEq, Nat.reduceEqDiff, ↓reduceIte, Nat.reduceAdd, Nat.reduceSub]
 refine yD (op_call (b := false) rfl en30 (C30 (i := gmod (rawV l k) n)) (RL.cons (by exact View.same rfl) (RL.nil)) rfl (fun h => by cases h) rfl rfl) ?_; try simp only [nA, Nat.reduceBEq, Nat.reduceEqDiff, ↓reduceIte, Nat.reduceAdd, Nat.reduceSub]
 refine yD (z8 rfl rfl rfl rfl rfl rfl sz23 rfl (bl rfl) rfl) ?_; simp only [nA, Nat.reduceBEq, Nat.reduceEqDiff, ↓reduceIte]
 refine zE (hK _ ?_); clear hK K
 skip
 refine zO ?_; (try simp only [zI, zJ, Nat.reduceEqDiff, ↓reduceIte]); exact RQ.of (.inl rfl) rfl (.cell (bl rfl) rfl rfl rfl ag23 sz23 (bl rfl) rfl rfl .nil) (by simp) rfl (one_out rfl)
abbrev catsL : List Int := [0, 0, 0, 1, 1, 2, 3, 4]
abbrev pieceV (l : List Int) (k : Nat) (n : Int) : Piece := ⟨yT (gmod (rawV l k) n), 1 + gmod (rawV l (zP l k)) 40, yI l (zP l (zP l k)) catsL⟩
theorem C11 {l : List Int} {k : Nat} {n : Int} (hl : l.length ≤ 2000) (hn : n ≤ 9223372036854775807) : Fn Tryz.prog 11 [.own 67 [srcRow l k]] [.ptr 0 0 0 0, .v (.int .i64 n)] [.agg (pieceV l k n).av] [.own 67 [srcRow l (zP l (zP l (zP l k)))]] := by
 have hg := gmod_bd (x := rawV l (zP l k)) (n := 40) (by decide)
 refine Spec.body Tryz.func11 rfl Tryz.ntmps11 (by simp) rfl ?_; intro S0 own0 v0 w0
 refine zA fun K hK => zB ?_
 refine yD (op_alloc rfl ze35 rfl) ?_; simp only [nA, Nat.reduceBEq, Nat.reduceEqDiff, ↓reduceIte]
 refine zE (hK _ ?_); clear hK K; try simp only [nA, Nat.reduceBEq, Nat.reduceEqDiff, ↓reduceIte, Nat.reduceAdd, Nat.reduceSub]
 refine zA fun K hK => zB ?_
 refine zF (zC rfl rfl) ?_; simp only [nA, ↓reduceIte]
 refine zF (zC rfl rfl) ?_; simp only [nA, ↓reduceIte]
 refine yD (yQ rfl en31 (C31 hl hn) (by exact rfl) (RL.cons .ptr (RL.cons (.base (by exact View.same rfl)) (RL.nil))) (by exact ⟨_, _, _, rfl, rfl, rfl⟩) (by exact rfl) (by exact rfl) (by exact rfl)) ?_; try simp only [nA, Nat.reduceBEq, Nat.reduceEqDiff, ↓reduceIte, Nat.reduceAdd, Nat.reduceSub]
 refine zF (zC rfl rfl) ?_; simp only [nA, ↓reduceIte]
 refine yD (yQ rfl en18 (C18 (n := 40) hl (by decide)) (by exact rfl) (RL.cons .ptr (RL.cons (.base (by exact View.same rfl)) (RL.nil))) (by exact ⟨_, _, _, rfl, rfl, rfl⟩) (by exact rfl) (by exact rfl) (by exact rfl)) ?_; try simp only [nA, Nat.reduceBEq, Nat.reduceEqDiff, ↓reduceIte, Nat.reduceAdd, Nat.reduceSub]
 (refine zF (zR rfl rfl rfl (by omega)) ?_); try simp only [nA, Nat.reduceBEq, Nat.reduceEqDiff, ↓reduceIte, Nat.reduceAdd, Nat.reduceSub]
 refine zF (zC rfl rfl) ?_; simp only [nA, ↓reduceIte]
 refine yD (zV rfl [(0, iv 0), (1, iv 0), (2, iv 0), (3, iv 1), (4, iv 1), (5, iv 2), (6, iv 3), (7, iv 4)] (([0, 0, 0, 1, 1, 2, 3, 4] : List Int).map iv) Tryz.underlying36 ze3 rfl (by simp) (fold_dense 1 (([0, 0, 0, 1, 1, 2, 3, 4] : List Int).map iv) (iv_len _)) (iv_len _) rfl (bl rfl) (by simp [maxLen])) ?_; (simp only [nA, Nat.reduceBEq, Nat.reduceEqDiff, ↓reduceIte]); refine AWL.gh (Gh.freeze 12 (bl rfl) rfl rfl (iv_flat catsL) (es' := catsL.map iv) rfl) ?_; try simp only [nA, Nat.reduceBEq, Nat.reduceEqDiff, ↓reduceIte, Nat.reduceAdd, Nat.reduceSub]
 refine yD (yQ rfl en29 (C29 (xs := catsL) hl (by decide) (by decide)) (by exact rfl) (RL.cons .ptr (RL.cons (.base (by exact View.same rfl)) (RL.nil))) (by exact ⟨_, _, _, rfl, rfl, rfl⟩) (by exact rfl) (by exact rfl) (by exact rfl)) ?_; try simp only [nA, Nat.reduceBEq, Nat.reduceEqDiff, ↓reduceIte, Nat.reduceAdd, Nat.reduceSub]
 refine zF (op_build2 (xs := [_, _, _, _, _]) rfl pl35 ze35 [(0, [_, _, _]), (1, [_]), (2, [_])] rfl rfl rfl) ?_; simp only [nA, ↓reduceIte]
 refine yD (z8 rfl rfl rfl rfl rfl rfl yR rfl (bl rfl) rfl) ?_; simp only [nA, Nat.reduceBEq, Nat.reduceEqDiff, ↓reduceIte]
 refine zE (hK _ ?_); clear hK K
 skip
 refine zO ?_; (try simp only [zI, zJ, Nat.reduceEqDiff, ↓reduceIte]); exact RQ.of (.inl rfl) rfl (.cell (bl rfl) rfl rfl rfl ag35 yR (bl rfl) rfl rfl .nil) (by simp) rfl (one_out rfl)
def hasB (l : List Piece) (p : Plate) : Bool := l.any fun x => decide (x.plate = p)
theorem C64 {c : Container} {p : Plate} (hcl : c.pieces.length ≤ 1000000000) : Fn Tryz.prog 64 [] [.agg c.av, .agg p.av] [.v (.bool (hasB c.pieces p))] [] := by
 refine Spec.body Tryz.func64 rfl Tryz.ntmps64 (by simp) rfl ?_; intro S0 own0 v0 w0
 refine zA fun K hK => zB ?_
 refine yD (yO rfl rfl rfl yH rfl) ?_; simp only [nA, Nat.reduceBEq, Nat.reduceEqDiff, ↓reduceIte]
 refine yD (yO rfl rfl rfl sz23 rfl) ?_; simp only [nA, Nat.reduceBEq, Nat.reduceEqDiff, ↓reduceIte]
 refine zF (zD rfl rfl) ?_; try simp only [nA, Nat.reduceBEq, Nat.reduceEqDiff, ↓reduceIte, Nat.reduceAdd, Nat.reduceSub]
 refine zE (hK _ ?_); clear hK K; try simp only [nA, Nat.reduceBEq, Nat.reduceEqDiff, ↓reduceIte, Nat.reduceAdd, Nat.reduceSub]
 refine zA fun K hK => ?_
 refine zA fun K hK => zB ?_
 (refine zF (zH rfl rfl rfl fl33_7 (by exact sz31) (by decide) rfl) ?_); try simp only [nA, Nat.reduceBEq, Nat.reduceEqDiff, ↓reduceIte, Nat.reduceAdd, Nat.reduceSub]
 (refine awR (zG rfl rfl rfl rfl ag31 rfl rfl) ?_); try simp only [nA, Nat.reduceBEq, Nat.reduceEqDiff, ↓reduceIte, Nat.reduceAdd, Nat.reduceSub]
 (refine zF (zX rfl rfl Tryz.underlying31 (by exact .inr (.inl ⟨_, rfl, rfl⟩))) ?_); try simp only [nA, Nat.reduceBEq, Nat.reduceEqDiff, ↓reduceIte, Nat.reduceAdd, Nat.reduceSub]
 refine zF (zC rfl rfl) ?_; try simp only [nA, Nat.reduceBEq, Nat.reduceEqDiff, ↓reduceIte, Nat.reduceAdd, Nat.reduceSub]
 refine zE (hK _ ?_); clear hK K
 refine zN ?_
 refine yC (fun (i : Nat) => [(3, .ptr 1 2 0 0), (8, .ro (c.pieces.map Piece.av)), (9, .v (.int .i64 (c.pieces.length : Nat))), (10, .v (.int .i64 (i : Nat)))]) (fun i => ⟨[(1, .own 33 [c.av]), (2, .own 23 [p.av])], 3 + i⟩) (fun i => i ≤ c.pieces.length ∧ ∀ k (h : k < c.pieces.length), k < i → c.pieces[k].plate ≠ p) (fun i => c.pieces.length - i) 0 (by simp) ⟨rfl, rfl, rfl, rfl, trivial⟩ rfl ?_; intro i ρ hi; simp only [updL]
 refine zA fun K hK => zB ?_
 refine zF (yP rfl rfl rfl) ?_; try simp only [nA, Nat.reduceBEq, Nat.reduceEqDiff, ↓reduceIte, Nat.reduceAdd, Nat.reduceSub]
 refine zE (hK _ ?_); clear hK K
 refine zA fun K hK => ?_
 refine zL rfl rfl rfl (fun hc => ?_) (fun hc => ?_)
 ·
  (try simp only [z7] at hc); have hc1 := hc; have hlt : i < c.pieces.length := (by simpa using hc1)
  refine zM ?_
  refine hK _ ?_; clear hK K
  refine zA fun K hK => zN ?_
  refine zA fun K hK => zB ?_
  (refine zF (zW _ rfl (.inl rfl) rfl Tryz.underlying31 rfl (get_map (by omega)) (by exact yR) (bl rfl)) ?_); try simp only [nA, Nat.reduceBEq, Nat.reduceEqDiff, ↓reduceIte, Nat.reduceAdd, Nat.reduceSub]
  (refine awR (zY rfl rfl ag35 yR (bl rfl) (by decide) rfl) ?_); try simp only [nA, Nat.reduceBEq, Nat.reduceEqDiff, ↓reduceIte, Nat.reduceAdd, Nat.reduceSub]
  refine yD (op_alloc rfl ze35 rfl) ?_; simp only [nA, Nat.reduceBEq, Nat.reduceEqDiff, ↓reduceIte]
  refine yD (z8 rfl rfl rfl rfl rfl rfl yR rfl (bl rfl) rfl) ?_; simp only [nA, Nat.reduceBEq, Nat.reduceEqDiff, ↓reduceIte]
  refine zE (hK _ ?_); clear hK K
  refine zA fun K hK => zB ?_
  (refine zF (zH rfl rfl rfl fl35_0 (by exact sz23) (by decide) rfl) ?_); try simp only [nA, Nat.reduceBEq, Nat.reduceEqDiff, ↓reduceIte, Nat.reduceAdd, Nat.reduceSub]
  (refine awR (zK rfl rfl rfl rfl ag23 sz23 (bl rfl) rfl) ?_); try simp only [nA, Nat.reduceBEq, Nat.reduceEqDiff, ↓reduceIte, Nat.reduceAdd, Nat.reduceSub]
  (refine awR (zK rfl rfl rfl rfl ag23 sz23 (bl rfl) rfl) ?_); try simp only [nA, Nat.reduceBEq, Nat.reduceEqDiff, ↓reduceIte, Nat.reduceAdd, Nat.reduceSub]
  refine zF (op_eq23 rfl rfl rfl) ?_; try simp only [nA, Nat.reduceBEq, Nat.reduceEqDiff, ↓reduceIte, Nat.reduceAdd, Nat.reduceSub]
  refine zE (hK _ ?_); clear hK K
  refine zL rfl rfl rfl (fun hc => ?_) (fun hc => ?_)
  ·
   (try simp only [z7] at hc); have hc2 := hc
   refine zA fun K hK => zB ?_
   refine zF (zD rfl rfl) ?_; try simp only [nA, Nat.reduceBEq, Nat.reduceEqDiff, ↓reduceIte, Nat.reduceAdd, Nat.reduceSub]
   refine zE (hK _ ?_); clear hK K
   skip
   refine zO ?_; (try simp only [zI, zJ, Nat.reduceEqDiff, ↓reduceIte]); rw [show hasB c.pieces p = true by unfold hasB; rw [List.any_eq_true]; exact ⟨c.pieces[i], List.getElem_mem _, by simpa using hc2⟩]; exact zS rfl (.tmp (bl rfl) rfl rfl .nil)
  (try simp only [z7] at hc); have hc2 := hc
  refine zM ?_
  (try simp only [zI, zJ, Nat.reduceEqDiff, ↓reduceIte])
  refine hK _ ?_; clear hK K
  refine zB ?_
  (refine zF (zR rfl rfl rfl (by omega)) ?_); try simp only [nA, Nat.reduceBEq, Nat.reduceEqDiff, ↓reduceIte, Nat.reduceAdd, Nat.reduceSub]
  refine zF (zC rfl rfl) ?_; simp only [nA]
  refine AWL.gh (Gh.drop 2) ?_; try simp only [nA, Nat.reduceBEq, Nat.reduceEqDiff, ↓reduceIte, Nat.reduceAdd, Nat.reduceSub]
  refine zE ?_
  refine ⟨i + 1, ⟨by omega, fun k h hk => by rcases Nat.lt_or_ge k i with h' | h'; exact hi.2 k h h'; (obtain rfl : k = i := by omega); exact hc2⟩, by omega, ⟨rfl, rfl, rfl, rfl, trivial⟩, (by rfl), (by rfl)⟩
 (try simp only [z7] at hc); have hc1 := hc
 refine yE ?_; try simp only [zI, zJ, Nat.reduceEqDiff, ↓reduceIte]
 clear hK K
 refine hK _ ?_; clear hK K
 refine zA fun K hK => zB ?_
 refine zF (zD rfl rfl) ?_; try simp only [nA, Nat.reduceBEq, Nat.reduceEqDiff, ↓reduceIte, Nat.reduceAdd, Nat.reduceSub]
 refine zE (hK _ ?_); clear hK K
 skip
 refine zO ?_; (try simp only [zI, zJ, Nat.reduceEqDiff, ↓reduceIte]); rw [show hasB c.pieces p = false by unfold hasB; rw [List.any_eq_false]; intro x hx; obtain ⟨k, hk, rfl⟩ := List.getElem_of_mem hx; have := hi.2 k hk (by simp at hc1; omega); simpa using this]; exact zS rfl (.tmp (bl rfl) rfl rfl .nil)
set_option maxRecDepth 100000
theorem sumW_perm {l m : List Piece} (h : l.Perm m) : sumW l = sumW m := by
 unfold sumW
 induction h with
 | nil => rfl
 | cons x _ ih => simp [ih]
 | swap x y l => simp; omega
 | trans _ _ h1 h2 => exact h1.trans h2
theorem hasB_iff {l : List Piece} {p : Plate} : hasB l p = true ↔ ∃ x ∈ l, x.plate = p := by unfold hasB; simp
theorem hasB_no {l : List Piece} {p : Plate} : hasB l p = false ↔ ∀ x ∈ l, x.plate ≠ p := by unfold hasB; simp
theorem found_has {l : List Piece} {p : Plate} (ha : AscP l) : foundP l p = hasB l p := by
 cases hb : hasB l p with
 | false => exact found_no (hasB_no.1 hb)
 | true =>
   obtain ⟨x, hx, e⟩ := hasB_iff.1 hb
   obtain ⟨i, hi, rfl⟩ := List.getElem_of_mem hx
   have hpos : posP l p = i := pos_eq (by omega) (fun j h hj => by
     rw [← e]; exact cmpP_lt.2 (List.pairwise_iff_getElem.1 ha j i h hi hj)) (fun j h hj hlt => by
     rw [← e] at hlt
     rcases Nat.lt_or_ge i j with h' | h'
     · exact PLt.irrefl _ ((cmpP_lt.1 hlt).trans (List.pairwise_iff_getElem.1 ha i j hi h h'))
     obtain rfl : j = i := by omega
     exact PLt.irrefl _ (cmpP_lt.1 hlt))
   unfold foundP
   rw [hpos, List.getD_eq_getElem?_getD, List.getElem?_eq_getElem hi]
   simp [hi, e]
theorem val_asc {c : Container} (h : valC c = 0) : AscP c.pieces := ascP_iff.2 (val_inv h).2.2.2
theorem ins_pieces (c : Container) (p : Piece) : (insC c p).pieces = insL c.pieces p := rfl
theorem ins_val {c : Container} {p : Piece} (h : valC c = 0) (hp : piB p = true) (hn : hasB c.pieces p.plate = false) (hl : c.pieces.length < 60) : valC (insC c p) = 0 := by
 have hv := val_inv h
 have hperm := insL_perm c.pieces p
 refine val_intro hv.1 ?_ (fun x hx => ?_) (ascP_iff.1 (insL_asc (val_asc h) (hasB_no.1 hn)))
 · rw [ins_pieces, hperm.length_eq]; simp; omega
 rcases List.mem_cons.1 (hperm.mem_iff.1 hx) with rfl | hx
 · exact hp
 exact hv.2.2.1 x hx
theorem del_sub (c : Container) (p : Plate) : (delC c p).pieces.Sublist c.pieces := by
 show (c.pieces.take _ ++ c.pieces.drop _).Sublist c.pieces
 conv => rhs; rw [← List.take_append_drop (posP c.pieces p) c.pieces]
 exact (List.Sublist.refl _).append (List.drop_sublist_drop_left _ (Nat.le_succ _))
theorem del_val {c : Container} {p : Plate} (h : valC c = 0) : valC (delC c p) = 0 := by
 have hv := val_inv h
 have hs := del_sub c p
 exact val_intro hv.1 (Nat.le_trans hs.length_le hv.2.1) (fun x hx => hv.2.2.1 x (hs.subset hx)) (ascP_iff.1 ((val_asc h).sublist hs))
theorem val_nn {c : Container} (h : valC c = 0) {x : Piece} (hx : x ∈ c.pieces) : 1 ≤ x.weight := (piB_inv ((val_inv h).2.2.1 x hx)).2.1
theorem sumW_sub : ∀ {l m : List Piece}, l.Sublist m → (∀ x ∈ m, 1 ≤ x.weight) → sumW l ≤ sumW m
 | _, _, .slnil, _ => Int.le_refl _
 | _, _, .cons a h, hm => by
   have := sumW_sub h fun x hx => hm x (by simp [hx])
   have := hm a (by simp)
   unfold sumW at *
   simp; omega
 | _, _, .cons_cons a h, hm => by
   have := sumW_sub h fun x hx => hm x (by simp [hx])
   unfold sumW at *
   simp; omega
theorem over_no {c : Container} (h : valC c = 0) : overC c = false ↔ (∀ x ∈ c.pieces, bitB c.categories x.category = true) ∧ sumW c.pieces ≤ c.limit ∧ (c.pieces.length : Int) ≤ c.most := by
 unfold overC weightC
 simp only [h, ne_eq, not_true_eq_false, if_false]
 by_cases hb : (c.pieces.all fun p => bitB c.categories p.category) = true
 · rw [if_neg (by simp [hb])]
   simp at hb
   simp
   exact fun _ _ => hb
 rw [if_pos (by simpa using hb)]
 simp at hb
 obtain ⟨x, hx, hb⟩ := hb
 simp
 intro hall
 rw [hall x hx] at hb
 cases hb
/-- A container as the law has it. -/
structure Lim (c : Container) : Prop where
 val : valC c = 0
 no : overC c = false
 most : c.most ≤ 8
theorem Lim.len {c : Container} (h : Lim c) : c.pieces.length ≤ 8 := by
 have := ((over_no h.val).1 h.no).2.2
 have := h.most
 omega
theorem Lim.rem {c : Container} {p : Plate} (h : Lim c) : ((remC c p).2 = 0 ∧ hasB c.pieces p = true ∧ Lim (remC c p).1) ∨ ((remC c p).2 = 6 ∧ hasB c.pieces p = false) := by
 unfold remC
 rw [if_neg (by simp [h.val]), found_has (val_asc h.val)]
 cases hb : hasB c.pieces p with
 | false => right; simp
 | true =>
   left
   have ho := (over_no h.val).1 h.no
   have hs := del_sub c p
   refine ⟨rfl, rfl, del_val h.val, (over_no (del_val h.val)).2 ⟨fun x hx => ho.1 x (hs.subset hx), Int.le_trans (sumW_sub hs fun x hx => val_nn h.val hx) ho.2.1, ?_⟩, h.most⟩
   have := hs.length_le
   show (((delC c p).pieces.length : Nat) : Int) ≤ c.most
   omega
theorem put_eq {c : Container} {p : Piece} {lim : Bool} (h : valC c = 0) (hp : piB p = true) : putC c p lim = if foundP c.pieces p.plate = true then (zeroC, 5)
 else if (lim && !bitB c.categories p.category) = true then (zeroC, 4) else if (lim && fullB c p) = true then (zeroC, 8)
 else if (c.pieces.length : Int) ≥ 60 then (zeroC, 2) else (insC c p, 0) := by
 unfold putC
 rw [if_neg (by simp [h]), if_neg (by simp [hp])]
theorem Lim.add {c : Container} {p : Piece} (h : Lim c) (hp : piB p = true) :
   ((putC c p true).2 = 5 ∧ (putC c p false).2 = 5 ∧ hasB c.pieces p.plate = true) ∨
   ((putC c p true).2 = 0 ∧ (putC c p false).2 = 0 ∧ (putC c p true).1 = (putC c p false).1 ∧ hasB c.pieces p.plate = false ∧ Lim (putC c p true).1) ∨
   ((putC c p true).2 ≠ 0 ∧ (putC c p false).2 = 0 ∧ overC (putC c p false).1 = true ∧ hasB c.pieces p.plate = false) := by
 have hl := h.len
 rw [put_eq h.val hp, put_eq h.val hp, found_has (val_asc h.val)]
 cases hb : hasB c.pieces p.plate with
 | true => left; simp
 | false =>
   right
   have hiv := ins_val h.val hp hb (by omega)
   have hperm := insL_perm c.pieces p
   have ho := (over_no h.val).1 h.no
   have hsum : sumW (insL c.pieces p) = p.weight + sumW c.pieces := by rw [sumW_perm hperm]; simp [sumW]
   have hlen : (insL c.pieces p).length = c.pieces.length + 1 := by rw [hperm.length_eq]; rfl
   have hin : ∀ x, x ∈ insL c.pieces p ↔ x = p ∨ x ∈ c.pieces := fun x => by rw [hperm.mem_iff]; simp
   have e2 : (if (c.pieces.length : Int) ≥ 60 then (zeroC, 2) else (insC c p, 0)) = (insC c p, (0 : Int)) := by rw [if_neg (by omega)]
   simp only [Bool.false_and, Bool.false_eq_true, if_false, Bool.true_and]
   rw [e2]
   by_cases hbit : bitB c.categories p.category = true
   · rw [if_neg (by simp [hbit])]
     by_cases hf : fullB c p = true
     · rw [if_pos hf]
       right
       refine ⟨by simp, rfl, ?_, trivial⟩
       cases hov : overC (insC c p) with
       | true => rfl
       | false =>
         obtain ⟨-, q2, q3⟩ := (over_no hiv).1 hov
         rw [ins_pieces, hsum] at q2
         rw [ins_pieces, hlen] at q3
         unfold fullB at hf
         simp at hf
         have : (insC c p).limit = c.limit := rfl
         have : (insC c p).most = c.most := rfl
         omega
     rw [if_neg hf]
     left
     refine ⟨rfl, rfl, rfl, trivial, hiv, (over_no hiv).2 ⟨fun x hx => ?_, ?_, ?_⟩, h.most⟩
     · rcases (hin x).1 hx with rfl | hx
       · exact hbit
       exact ho.1 x hx
     · unfold fullB at hf
       simp at hf
       rw [ins_pieces, hsum]
       show _ ≤ c.limit
       omega
     unfold fullB at hf
     simp at hf
     rw [ins_pieces, hlen]
     show _ ≤ c.most
     omega
   rw [if_pos (by simpa using hbit)]
   right
   refine ⟨by simp, rfl, ?_, trivial⟩
   cases hov : overC (insC c p) with
   | true => rfl
   | false =>
     have := ((over_no hiv).1 hov).1 p (by rw [ins_pieces, hin]; exact .inl rfl)
     exact absurd this hbit
theorem plates_ok (x : Int) : plB (yT x) = true := by
 have h1 := gmod_bd (x := x) (n := 1000) (by decide)
 unfold plB yT
 generalize gmod x 1000 = a at *
 have e : ∀ {a b c d e f : Prop} [Decidable a] [Decidable b] [Decidable c] [Decidable d] [Decidable e] [Decidable f], a → b → c → d → e → f → (((((decide a && decide b) && decide c) && decide d) && decide e) && decide f) = true := fun h1 h2 h3 h4 h5 h6 => by simp [h1, h2, h3, h4, h5, h6]
 refine e ?_ ?_ ?_ ?_ ?_ ?_ <;> dsimp only <;> omega
theorem piece_ok (l : List Int) (k : Nat) {n : Int} : piB (pieceV l k n) = true := by
 have h2 := gmod_bd (x := rawV l (zP l k)) (n := 40) (by decide)
 have h3 : yI l (zP l (zP l k)) catsL ∈ catsL := pickV_mem (by decide)
 have h4 : 0 ≤ yI l (zP l (zP l k)) catsL ∧ yI l (zP l (zP l k)) catsL ≤ 4 := by
   simp at h3; omega
 have e : ∀ {a b c d : Prop} [Decidable a] [Decidable b] [Decidable c] [Decidable d], a → b → c → d → ((true && (decide a && decide b)) && (decide c && decide d)) = true := fun h1 h2 h3 h4 => by simp [h1, h2, h3, h4]
 unfold piB inB
 rw [show plB (pieceV l k n).plate = true from plates_ok _]
 refine e ?_ ?_ ?_ ?_ <;> dsimp only [pieceV] <;> omega
theorem Lim.zero {a b m : Int} (h1 : 0 ≤ a ∧ a < 32) (h2 : 0 ≤ b ∧ b < 200) (h3 : 0 ≤ m ∧ m < 9) : Lim ⟨7, flight0, a, b, m, 0, 0, []⟩ := by
 have hv : valC (⟨7, flight0, a, b, m, 0, 0, []⟩ : Container) = 0 := by
   refine val_intro ?_ (by simp) (by simp) (by unfold Asc; simp)
   have : flB flight0 = true := by kernel_rfl
   unfold coB inB
   rw [this]
   simp
   omega
 exact ⟨hv, (over_no hv).2 ⟨by simp, by show (0 : Int) ≤ b; omega, by show (0 : Int) ≤ m; omega⟩, by show m ≤ 8; omega⟩
set_option maxRecDepth 100000
abbrev flightN (x : Int) : Flight := ⟨⟨#[66, 65]⟩, 1, ⟨#[]⟩, 1 + x⟩
theorem C35n (x : Int) (h : 0 ≤ x ∧ x < 27) : Fn Tryz.prog 35 [] [.v (.int .i64 x), .v (.int .i64 27)] [.v (.int .i64 x)] [] := by
 have h1 := C35 (x := x) (n := 27) (by decide)
 rwa [show gmod x 27 = x by unfold gmod; rw [if_neg (by decide), Int.tmod_eq_emod_of_nonneg (by omega), Int.emod_eq_of_lt (by omega) (by omega), if_neg (by omega)]] at h1
theorem C17_0 : Fn Tryz.prog 17 [] [.v (.int .i64 0)] [.agg (flightN 0).av] [] := by
 refine Spec.body Tryz.func17 rfl Tryz.ntmps17 (by simp) rfl ?_; intro S0 own0 v0 w0
 refine zA fun K hK => zB ?_
 refine yD (op_alloc rfl ze25 rfl) ?_; simp only [nA, Nat.reduceBEq, Nat.reduceEqDiff, ↓reduceIte]
 refine zE (hK _ ?_); clear hK K; try simp only [nA, Nat.reduceBEq, Nat.reduceEqDiff, ↓reduceIte, Nat.reduceAdd, Nat.reduceSub]
 refine zA fun K hK => zB ?_
 refine zF (zC rfl rfl) ?_
 refine yD (OpQ.j (zT (b := true) rfl en35 (C35n 0 (by decide)) (RL.cons (by exact View.same rfl) (RL.cons (by exact View.same rfl) (RL.nil))) rfl)) ?_; simp only [nA, ↓reduceIte]
 refine zF (zD rfl rfl) ?_
 refine zE (hK _ ?_); clear hK K; simp only [nA]
 refine zA fun K hK => zB ?_
 refine yD (zV rfl [(0, [_]), (1, [_]), (2, [_])] [[_], [_], [_]] Tryz.underlying40 ze9 rfl (by simp) rfl (by simp) rfl (bl rfl) (by simp [maxLen])) ?_; simp only [nA, Nat.reduceBEq, Nat.reduceEqDiff, ↓reduceIte]
 refine zF (zC rfl rfl) ?_
 refine zF (op_quoi rfl rfl rfl (by omega)) ?_
 refine zF (op_ia_sl 0 _ rfl rfl rfl rfl Tryz.underlying40 (by decide) (by decide) sz9 rfl) ?_
 refine awR (zG rfl rfl rfl rfl ag9 rfl rfl) ?_
 refine zF (zC rfl rfl) ?_
 refine zF (op_quoi rfl rfl rfl (by omega)) ?_
 refine zF (op_remi rfl rfl rfl (by omega)) ?_
 refine zF (zR rfl rfl rfl (by omega)) ?_
 refine zF (zC rfl rfl) ?_
 refine zF (op_remi rfl rfl rfl (by omega)) ?_
 refine zF (zR rfl rfl rfl (by omega)) ?_
 refine zF (op_build2 (xs := [_, _, .v (.string ⟨#[]⟩), _]) rfl pl25 ze25 [(0, [_]), (1, [_]), (3, [_])] rfl rfl rfl) ?_
 refine yD (z8 rfl rfl rfl rfl rfl rfl sz25 rfl (bl rfl) rfl) ?_; simp only [nA, Nat.reduceBEq, Nat.reduceEqDiff, ↓reduceIte]
 refine zE (hK _ ?_); clear hK K
 skip
 refine zO ?_; (try simp only [zI, zJ, Nat.reduceEqDiff, ↓reduceIte]); exact zS rfl (.cell (bl rfl) rfl rfl rfl ag25 sz25 (bl rfl) rfl rfl .nil)
theorem C17_1 : Fn Tryz.prog 17 [] [.v (.int .i64 1)] [.agg (flightN 1).av] [] := by
 refine Spec.body Tryz.func17 rfl Tryz.ntmps17 (by simp) rfl ?_; intro S0 own0 v0 w0
 refine zA fun K hK => zB ?_
 refine yD (op_alloc rfl ze25 rfl) ?_; simp only [nA, Nat.reduceBEq, Nat.reduceEqDiff, ↓reduceIte]
 refine zE (hK _ ?_); clear hK K; try simp only [nA, Nat.reduceBEq, Nat.reduceEqDiff, ↓reduceIte, Nat.reduceAdd, Nat.reduceSub]
 refine zA fun K hK => zB ?_
 refine zF (zC rfl rfl) ?_
 refine yD (OpQ.j (zT (b := true) rfl en35 (C35n 1 (by decide)) (RL.cons (by exact View.same rfl) (RL.cons (by exact View.same rfl) (RL.nil))) rfl)) ?_; simp only [nA, ↓reduceIte]
 refine zF (zD rfl rfl) ?_
 refine zE (hK _ ?_); clear hK K; simp only [nA]
 refine zA fun K hK => zB ?_
 refine yD (zV rfl [(0, [_]), (1, [_]), (2, [_])] [[_], [_], [_]] Tryz.underlying40 ze9 rfl (by simp) rfl (by simp) rfl (bl rfl) (by simp [maxLen])) ?_; simp only [nA, Nat.reduceBEq, Nat.reduceEqDiff, ↓reduceIte]
 refine zF (zC rfl rfl) ?_
 refine zF (op_quoi rfl rfl rfl (by omega)) ?_
 refine zF (op_ia_sl 0 _ rfl rfl rfl rfl Tryz.underlying40 (by decide) (by decide) sz9 rfl) ?_
 refine awR (zG rfl rfl rfl rfl ag9 rfl rfl) ?_
 refine zF (zC rfl rfl) ?_
 refine zF (op_quoi rfl rfl rfl (by omega)) ?_
 refine zF (op_remi rfl rfl rfl (by omega)) ?_
 refine zF (zR rfl rfl rfl (by omega)) ?_
 refine zF (zC rfl rfl) ?_
 refine zF (op_remi rfl rfl rfl (by omega)) ?_
 refine zF (zR rfl rfl rfl (by omega)) ?_
 refine zF (op_build2 (xs := [_, _, .v (.string ⟨#[]⟩), _]) rfl pl25 ze25 [(0, [_]), (1, [_]), (3, [_])] rfl rfl rfl) ?_
 refine yD (z8 rfl rfl rfl rfl rfl rfl sz25 rfl (bl rfl) rfl) ?_; simp only [nA, Nat.reduceBEq, Nat.reduceEqDiff, ↓reduceIte]
 refine zE (hK _ ?_); clear hK K
 skip
 refine zO ?_; (try simp only [zI, zJ, Nat.reduceEqDiff, ↓reduceIte]); exact zS rfl (.cell (bl rfl) rfl rfl rfl ag25 sz25 (bl rfl) rfl rfl .nil)
theorem C17_2 : Fn Tryz.prog 17 [] [.v (.int .i64 2)] [.agg (flightN 2).av] [] := by
 refine Spec.body Tryz.func17 rfl Tryz.ntmps17 (by simp) rfl ?_; intro S0 own0 v0 w0
 refine zA fun K hK => zB ?_
 refine yD (op_alloc rfl ze25 rfl) ?_; simp only [nA, Nat.reduceBEq, Nat.reduceEqDiff, ↓reduceIte]
 refine zE (hK _ ?_); clear hK K; try simp only [nA, Nat.reduceBEq, Nat.reduceEqDiff, ↓reduceIte, Nat.reduceAdd, Nat.reduceSub]
 refine zA fun K hK => zB ?_
 refine zF (zC rfl rfl) ?_
 refine yD (OpQ.j (zT (b := true) rfl en35 (C35n 2 (by decide)) (RL.cons (by exact View.same rfl) (RL.cons (by exact View.same rfl) (RL.nil))) rfl)) ?_; simp only [nA, ↓reduceIte]
 refine zF (zD rfl rfl) ?_
 refine zE (hK _ ?_); clear hK K; simp only [nA]
 refine zA fun K hK => zB ?_
 refine yD (zV rfl [(0, [_]), (1, [_]), (2, [_])] [[_], [_], [_]] Tryz.underlying40 ze9 rfl (by simp) rfl (by simp) rfl (bl rfl) (by simp [maxLen])) ?_; simp only [nA, Nat.reduceBEq, Nat.reduceEqDiff, ↓reduceIte]
 refine zF (zC rfl rfl) ?_
 refine zF (op_quoi rfl rfl rfl (by omega)) ?_
 refine zF (op_ia_sl 0 _ rfl rfl rfl rfl Tryz.underlying40 (by decide) (by decide) sz9 rfl) ?_
 refine awR (zG rfl rfl rfl rfl ag9 rfl rfl) ?_
 refine zF (zC rfl rfl) ?_
 refine zF (op_quoi rfl rfl rfl (by omega)) ?_
 refine zF (op_remi rfl rfl rfl (by omega)) ?_
 refine zF (zR rfl rfl rfl (by omega)) ?_
 refine zF (zC rfl rfl) ?_
 refine zF (op_remi rfl rfl rfl (by omega)) ?_
 refine zF (zR rfl rfl rfl (by omega)) ?_
 refine zF (op_build2 (xs := [_, _, .v (.string ⟨#[]⟩), _]) rfl pl25 ze25 [(0, [_]), (1, [_]), (3, [_])] rfl rfl rfl) ?_
 refine yD (z8 rfl rfl rfl rfl rfl rfl sz25 rfl (bl rfl) rfl) ?_; simp only [nA, Nat.reduceBEq, Nat.reduceEqDiff, ↓reduceIte]
 refine zE (hK _ ?_); clear hK K
 skip
 refine zO ?_; (try simp only [zI, zJ, Nat.reduceEqDiff, ↓reduceIte]); exact zS rfl (.cell (bl rfl) rfl rfl rfl ag25 sz25 (bl rfl) rfl rfl .nil)
theorem C17 (x : Int) (h : 0 ≤ x ∧ x < 3) : Fn Tryz.prog 17 [] [.v (.int .i64 x)] [.agg (flightN x).av] [] := by
 rcases (by omega : x = 0 ∨ x = 1 ∨ x = 2) with rfl | rfl | rfl
 · exact C17_0
 · exact C17_1
 exact C17_2
set_option maxRecDepth 100000
instance : Inhabited Container := ⟨zeroC⟩
abbrev oav (c : Container) : List AV := [.v (.int .i64 c.number), .v (.string c.flight.carrier), .v (.int .i64 c.flight.number), .v (.string c.flight.suffix), .v (.int .i64 c.flight.day), .v (.int .i64 c.categories), .v (.int .i64 c.limit), .v (.int .i64 c.most), .v (.int .i64 c.position), .v (.int .i64 c.arm), .own 35 (c.pieces.map Piece.av)]
abbrev nav (c : Container) : List AV := [.v (.int .i64 c.number), .v (.string c.flight.carrier), .v (.int .i64 c.flight.number), .v (.string c.flight.suffix), .v (.int .i64 c.flight.day), .v (.int .i64 c.categories), .v (.int .i64 c.limit), .v (.int .i64 c.most), .v (.int .i64 c.position), .v (.int .i64 c.arm), .v (.slice none 0 0)]
theorem cav_len (l : List Container) : ∀ x ∈ l.map Container.av, x.length = 11 := fun x hx => by
 obtain ⟨p, _, rfl⟩ := List.mem_map.1 hx; rfl
theorem RL.refl_le {P : Program} (l : List AV) : RL (Le2 P) l l := ⟨rfl, fun i u x h1 h2 => by rw [h1] at h2; injection h2 with h2; subst h2; exact .same⟩
theorem nav_le (cs : List Container) (c : Container) (h : c.pieces = []) : RL (Le2 Tryz.prog) (cs.map oav ++ [nav c]).flatten ((cs ++ [c]).map oav).flatten := by
 rw [List.map_append, List.flatten_append, List.flatten_append]
 refine RL.append (RL.refl_le _) ?_
 refine ⟨by simp, fun i u x hu hx => ?_⟩
 rcases i with _ | _ | _ | _ | _ | _ | _ | _ | _ | _ | _ | i <;> simp [h] at hu hx <;> subst hu <;> subst hx <;> first | exact .same | exact .nilo yR
theorem nav_lens (cs : List Container) (c : Container) : ((cs ++ [c]).map oav).map List.length = (cs.map oav ++ [nav c]).map List.length := by simp
abbrev mask6 : List Int := [31, 31, 31, 3, 30, 1]
abbrev cat8 : List Int := [0, 0, 0, 0, 1, 2, 3, 4]
abbrev nx2 (l : List Int) (k : Nat) : Nat := zP l (zP l k)
abbrev nx3 (l : List Int) (k : Nat) : Nat := zP l (nx2 l k)
abbrev nx4 (l : List Int) (k : Nat) : Nat := zP l (nx3 l k)
abbrev nx5 (l : List Int) (k : Nat) : Nat := zP l (nx4 l k)
abbrev nx6 (l : List Int) (k : Nat) : Nat := zP l (nx5 l k)
abbrev nx7 (l : List Int) (k : Nat) : Nat := zP l (nx6 l k)
abbrev conA (l : List Int) (k : Nat) (num pos : Int) : Container :=
 ⟨num + (1 + gmod (rawV l k) 2), flightN (gmod (rawV l (zP l k)) 3), yI l (nx2 l k) mask6, 50 + gmod (rawV l (nx3 l k)) 300, 2 + gmod (rawV l (nx4 l k)) 10, pos, gmod (rawV l (nx5 l k)) 21 - 10, []⟩
def ph1 (l : List Int) : Nat → Nat → Int → List Container → Nat × List Container
 | 0, k, _, cs => (k, cs)
 | f + 1, k, num, cs => ph1 l f (nx7 l k) (num + (1 + gmod (rawV l k) 2)) (cs ++ [conA l k num (if gmod (rawV l (nx6 l k)) 3 > 0 then cs.length + 1 else 0)])
def yG (l : List Int) (k n : Nat) : Nat := (gmod (rawV l k) (n : Nat)).toNat
theorem idxV_eq (l : List Int) (k : Nat) {n : Nat} (h : 1 ≤ n) : gmod (rawV l k) (n : Nat) = (yG l k n : Nat) := by
 have hg := gmod_bd (x := rawV l k) (n := (n : Nat)) (by omega)
 unfold yG; omega
theorem idxV_lt (l : List Int) (k : Nat) {n : Nat} (h : 1 ≤ n) : yG l k n < n := by
 have hg := gmod_bd (x := rawV l k) (n := (n : Nat)) (by omega)
 unfold yG; omega
theorem C18n {l : List Int} {k n : Nat} (hl : l.length ≤ 2000) (h1 : 1 ≤ n) (h2 : n ≤ 100000) : Fn Tryz.prog 18 [.own 67 [srcRow l k]] [.ptr 0 0 0 0, .v (.int .i64 (n : Nat))] [.v (.int .i64 (yG l k n : Nat))] [.own 67 [srcRow l (zP l k)]] := by
 have := C18 (l := l) (k := k) (n := (n : Nat)) hl (by omega)
 rwa [idxV_eq l k h1] at this
def addP (c : Container) (p : Piece) : Container := { c with pieces := c.pieces ++ [p] }
abbrev pieA (l : List Int) (i k : Nat) : Piece := ⟨yT i, 1 + gmod (rawV l (nx2 l k)) 30, yI l (nx3 l k) cat8⟩
def ph2 (l : List Int) : Nat → Nat → Nat → List Container → Nat × List Container
 | 0, _, k, cs => (k, cs)
 | f + 1, i, k, cs => if gmod (rawV l k) 3 = 0 then ph2 l f (i + 1) (zP l k) cs else
   if (((cs.getD (yG l (zP l k) cs.length) default).pieces.length : Nat) : Int) < 20 then ph2 l f (i + 1) (nx4 l k) (cs.set (yG l (zP l k) cs.length) (addP (cs.getD (yG l (zP l k) cs.length) default) (pieA l i k)))
   else ph2 l f (i + 1) (nx4 l k) cs
def contsV (l : List Int) (k m n : Nat) : Nat × List Container :=
 let r := ph1 l (yG l k (m + 1)) (zP l k) 0 []
 if r.2.length = 0 then r else ph2 l n 0 r.1 r.2
theorem cons_put {cs : List Container} {q : Nat} {p : Piece} (hq : q < cs.length) (x : AV) :
   ((cs.map oav).set q ((oav (cs.getD q default)).set 10 x)).set q (((oav (cs.getD q default)).set 10 x).set 10 (.own 35 (((cs.getD q default).pieces ++ [p]).map Piece.av))) = (cs.set q (addP (cs.getD q default) p)).map oav := by
 rw [List.set_set, List.set_set, List.map_set]
 rfl
set_option maxHeartbeats 4000000 in
theorem C10 {l : List Int} {k m n : Nat} (hl : l.length ≤ 2000) (hm : m ≤ 50) (hn : n ≤ 1000) : Fn Tryz.prog 10 [.own 67 [srcRow l k]] [.ptr 0 0 0 0, .v (.int .i64 (m : Nat)), .v (.int .i64 (n : Nat))] [.own 33 ((contsV l k m n).2.map oav)] [.own 67 [srcRow l (contsV l k m n).1]] := by
 have hk0 := idxV_lt l k (n := m + 1) (by omega)
 generalize k = k0 at *
 refine Spec.body Tryz.func10 rfl Tryz.ntmps10 (by simp) rfl ?_; intro S0 own0 v0 w0
 refine zA fun K hK => zB ?_
 refine zF (zD rfl rfl) ?_; try simp only [nA, Nat.reduceBEq, Nat.reduceEqDiff, ↓reduceIte, Nat.reduceAdd, Nat.reduceSub]
 refine zE (hK _ ?_); clear hK K; try simp only [nA, Nat.reduceBEq, Nat.reduceEqDiff, ↓reduceIte, Nat.reduceAdd, Nat.reduceSub]
 refine zA fun K hK => zB ?_
 refine zF (zD rfl rfl) ?_; try simp only [nA, Nat.reduceBEq, Nat.reduceEqDiff, ↓reduceIte, Nat.reduceAdd, Nat.reduceSub]
 refine zE (hK _ ?_); clear hK K
 refine zA fun K hK => zB ?_
 refine zF (zD rfl rfl) ?_; try simp only [nA, Nat.reduceBEq, Nat.reduceEqDiff, ↓reduceIte, Nat.reduceAdd, Nat.reduceSub]
 refine zE (hK _ ?_); clear hK K
 refine zA fun K hK => ?_
 refine zA fun K hK => zB ?_
 refine zF (zC rfl rfl) ?_; simp only [nA, ↓reduceIte]
 refine zF (zC rfl rfl) ?_; simp only [nA, ↓reduceIte]
 (refine zF (zR rfl rfl rfl (by omega)) ?_); try simp only [nA, Nat.reduceBEq, Nat.reduceEqDiff, ↓reduceIte, Nat.reduceAdd, Nat.reduceSub]
 refine yD (yQ rfl en18 (C18n (n := m + 1) hl (by omega) (by omega)) (by exact rfl) (RL.cons .ptr (RL.cons (.base (by exact View.same rfl)) (RL.nil))) (by exact ⟨_, _, _, rfl, rfl, rfl⟩) (by exact rfl) (by exact rfl) (by exact rfl)) ?_; try simp only [nA, Nat.reduceBEq, Nat.reduceEqDiff, ↓reduceIte, Nat.reduceAdd, Nat.reduceSub]
 refine zF (zD rfl rfl) ?_; simp only [nA]
 refine zE (hK _ ?_); clear hK K
 refine zN ?_
 refine AW.gh (Gh.nil (e := 33) 7 (bl rfl) rfl yH) ?_; (simp only [nA, Nat.reduceBEq, Nat.reduceEqDiff, ↓reduceIte]); refine yC (fun (q : Nat × Nat × Int × List Container × Nat × Nat) => [(0, .ptr 0 0 0 0), (2, .v (.int .i64 (n : Nat))), (7, .sl 1 q.2.2.2.2.1 0 q.2.2.2.1.length), (8, .v (.int .i64 q.2.2.1)), (9, .v (.int .i64 (q.1 : Nat)))]) (fun q => ⟨[(0, .own 67 [srcRow l q.2.1]), (q.2.2.2.2.1, .own 33 (q.2.2.2.1.map oav))], q.2.2.2.2.2⟩) (fun q => q.2.2.2.1.length + q.1 ≤ 100 ∧ 0 ≤ q.2.2.1 ∧ q.2.2.1 ≤ 2 * q.2.2.2.1.length ∧ ph1 l q.1 q.2.1 q.2.2.1 q.2.2.2.1 = ph1 l (yG l k0 (m + 1)) (zP l k0) 0 []) (fun q => q.1) (yG l k0 (m + 1), zP l k0, 0, [], 1, 2) ⟨by simp; omega, by simp, by simp, rfl⟩ ⟨rfl, rfl, rfl, rfl, rfl, trivial⟩ rfl ?_; rintro ⟨f, k, num, cs, v, ep⟩ ρ hI; simp only at hI; simp only [updL]
 refine zA fun K hK => ?_
 refine zA fun K hK => zB ?_
 refine zF (zC rfl rfl) ?_; simp only [nA, ↓reduceIte]
 refine zF (op_gtr rfl rfl rfl) ?_; try simp only [nA, Nat.reduceBEq, Nat.reduceEqDiff, ↓reduceIte, Nat.reduceAdd, Nat.reduceSub]
 refine zE (hK _ ?_); clear hK K
 refine zL rfl rfl rfl (fun hc => ?_) (fun hc => ?_)
 ·
  (try simp only [z7] at hc); have hc1 := hc; obtain ⟨f, rfl⟩ : ∃ g, f = g + 1 := ⟨f - 1, by omega⟩; have hg1 := gmod_bd (x := rawV l k) (n := 2) (by decide); have hg2 := gmod_bd (x := rawV l (zP l k)) (n := 3) (by decide); have hg3 := gmod_bd (x := rawV l (zP l (zP l (zP l k)))) (n := 300) (by decide); have hg4 := gmod_bd (x := rawV l (zP l (zP l (zP l (zP l k))))) (n := 10) (by decide); have hg5 := gmod_bd (x := rawV l (zP l (zP l (zP l (zP l (zP l k)))))) (n := 21) (by decide)
  refine zM ?_
  refine hK _ ?_; clear hK K
  refine zA fun K hK => zN ?_
  refine zA fun K hK => zB ?_
  refine zF (zC rfl rfl) ?_; simp only [nA, ↓reduceIte]
  refine zF (zC rfl rfl) ?_; simp only [nA, ↓reduceIte]
  refine yD (yQ rfl en18 (C18 (n := 2) hl (by decide)) (by exact rfl) (RL.cons .ptr (RL.cons (.base (by exact View.same rfl)) (RL.nil))) (by exact ⟨_, _, _, rfl, rfl, rfl⟩) (by exact rfl) (by exact rfl) (by exact rfl)) ?_; try simp only [nA, Nat.reduceBEq, Nat.reduceEqDiff, ↓reduceIte, Nat.reduceAdd, Nat.reduceSub]
  (refine zF (zR rfl rfl rfl (by omega)) ?_); try simp only [nA, Nat.reduceBEq, Nat.reduceEqDiff, ↓reduceIte, Nat.reduceAdd, Nat.reduceSub]
  (refine zF (zR rfl rfl rfl (by omega)) ?_); try simp only [nA, Nat.reduceBEq, Nat.reduceEqDiff, ↓reduceIte, Nat.reduceAdd, Nat.reduceSub]
  refine zF (zD rfl rfl) ?_; simp only [nA]
  refine zE (hK _ ?_); clear hK K
  refine zA fun K hK => zB ?_
  refine zF (zC rfl rfl) ?_; simp only [nA]
  refine zF (zC rfl rfl) ?_; simp only [nA, ↓reduceIte]
  refine yD (yQ rfl en18 (C18 (n := 3) hl (by decide)) (by exact rfl) (RL.cons .ptr (RL.cons (.base (by exact View.same rfl)) (RL.nil))) (by exact ⟨_, _, _, rfl, rfl, rfl⟩) (by exact rfl) (by exact rfl) (by exact rfl)) ?_; try simp only [nA, Nat.reduceBEq, Nat.reduceEqDiff, ↓reduceIte, Nat.reduceAdd, Nat.reduceSub]
  refine yD (op_call (b := false) rfl en17 (C17 _ hg2) (RL.cons (by exact View.same rfl) (RL.nil)) rfl (fun h => by cases h) rfl rfl) ?_; try simp only [nA, Nat.reduceBEq, Nat.reduceEqDiff, ↓reduceIte, Nat.reduceAdd, Nat.reduceSub]
  refine zF (zC rfl rfl) ?_; simp only [nA, ↓reduceIte]
  refine yD (zV rfl [(0, iv 31), (1, iv 31), (2, iv 31), (3, iv 3), (4, iv 30), (5, iv 1)] (([31, 31, 31, 3, 30, 1] : List Int).map iv) Tryz.underlying36 ze3 rfl (by simp) (fold_dense 1 (([31, 31, 31, 3, 30, 1] : List Int).map iv) (iv_len _)) (iv_len _) rfl (bl rfl) (by simp [maxLen])) ?_; (simp only [nA, Nat.reduceBEq, Nat.reduceEqDiff, ↓reduceIte]); refine AWL.gh (Gh.freeze 32 (bl rfl) rfl rfl (iv_flat mask6) (es' := mask6.map iv) rfl) ?_; try simp only [nA, Nat.reduceBEq, Nat.reduceEqDiff, ↓reduceIte, Nat.reduceAdd, Nat.reduceSub]
  refine yD (yQ rfl en29 (C29 (xs := mask6) hl (by decide) (by decide)) (by exact rfl) (RL.cons .ptr (RL.cons (.base (by exact View.same rfl)) (RL.nil))) (by exact ⟨_, _, _, rfl, rfl, rfl⟩) (by exact rfl) (by exact rfl) (by exact rfl)) ?_; try simp only [nA, Nat.reduceBEq, Nat.reduceEqDiff, ↓reduceIte, Nat.reduceAdd, Nat.reduceSub]
  refine zF (zC rfl rfl) ?_; simp only [nA, ↓reduceIte]
  refine yD (yQ rfl en18 (C18 (n := 300) hl (by decide)) (by exact rfl) (RL.cons .ptr (RL.cons (.base (by exact View.same rfl)) (RL.nil))) (by exact ⟨_, _, _, rfl, rfl, rfl⟩) (by exact rfl) (by exact rfl) (by exact rfl)) ?_; try simp only [nA, Nat.reduceBEq, Nat.reduceEqDiff, ↓reduceIte, Nat.reduceAdd, Nat.reduceSub]
  (refine zF (zR rfl rfl rfl (by omega)) ?_); try simp only [nA, Nat.reduceBEq, Nat.reduceEqDiff, ↓reduceIte, Nat.reduceAdd, Nat.reduceSub]
  refine zF (zC rfl rfl) ?_; simp only [nA, ↓reduceIte]
  refine yD (yQ rfl en18 (C18 (n := 10) hl (by decide)) (by exact rfl) (RL.cons .ptr (RL.cons (.base (by exact View.same rfl)) (RL.nil))) (by exact ⟨_, _, _, rfl, rfl, rfl⟩) (by exact rfl) (by exact rfl) (by exact rfl)) ?_; try simp only [nA, Nat.reduceBEq, Nat.reduceEqDiff, ↓reduceIte, Nat.reduceAdd, Nat.reduceSub]
  (refine zF (zR rfl rfl rfl (by omega)) ?_); try simp only [nA, Nat.reduceBEq, Nat.reduceEqDiff, ↓reduceIte, Nat.reduceAdd, Nat.reduceSub]
  refine zF (zC rfl rfl) ?_; simp only [nA, ↓reduceIte]
  refine yD (yQ rfl en18 (C18 (n := 21) hl (by decide)) (by exact rfl) (RL.cons .ptr (RL.cons (.base (by exact View.same rfl)) (RL.nil))) (by exact ⟨_, _, _, rfl, rfl, rfl⟩) (by exact rfl) (by exact rfl) (by exact rfl)) ?_; try simp only [nA, Nat.reduceBEq, Nat.reduceEqDiff, ↓reduceIte, Nat.reduceAdd, Nat.reduceSub]
  (refine zF (op_subi rfl rfl rfl (by omega)) ?_); try simp only [nA, Nat.reduceBEq, Nat.reduceEqDiff, ↓reduceIte, Nat.reduceAdd, Nat.reduceSub]
  refine zF (op_build2 (xs := [_, _, _, _, _, _, _, _, .v (.int .i64 0), _, .v (.slice none 0 0)]) rfl pl33 ze33 [(0, [_]), (1, [_, _, _, _]), (2, [_]), (3, [_]), (4, [_]), (6, [_])] rfl rfl rfl) ?_; simp only [nA, ↓reduceIte]
  refine yD (op_alloc rfl ze33 rfl) ?_; simp only [nA, Nat.reduceBEq, Nat.reduceEqDiff, ↓reduceIte]
  refine yD (z8 rfl rfl rfl rfl rfl rfl yH rfl (bl rfl) rfl) ?_; simp only [nA, Nat.reduceBEq, Nat.reduceEqDiff, ↓reduceIte]
  refine zE (hK _ ?_); clear hK K
  refine zA fun K hK => ?_
  refine zA fun K hK => zB ?_
  refine zF (zC rfl rfl) ?_; simp only [nA, ↓reduceIte]
  refine yD (yQ rfl en18 (C18 (n := 3) hl (by decide)) (by exact rfl) (RL.cons .ptr (RL.cons (.base (by exact View.same rfl)) (RL.nil))) (by exact ⟨_, _, _, rfl, rfl, rfl⟩) (by exact rfl) (by exact rfl) (by exact rfl)) ?_; try simp only [nA, Nat.reduceBEq, Nat.reduceEqDiff, ↓reduceIte, Nat.reduceAdd, Nat.reduceSub]
  refine zF (op_gtr rfl rfl rfl) ?_; try simp only [nA, Nat.reduceBEq, Nat.reduceEqDiff, ↓reduceIte, Nat.reduceAdd, Nat.reduceSub]
  refine zE (hK _ ?_); clear hK K
  refine zL rfl rfl rfl (fun hc => ?_) (fun hc => ?_)
  ·
   (try simp only [z7] at hc); have hc2 := hc
   refine zB ?_
   refine zF (zC rfl rfl) ?_; simp only [nA, ↓reduceIte]
   (refine zF (op_len_sl rfl rfl rfl Tryz.underlying42) ?_); try simp only [nA, Nat.reduceBEq, Nat.reduceEqDiff, ↓reduceIte, Nat.reduceAdd, Nat.reduceSub]
   (refine zF (zR rfl rfl rfl (by omega)) ?_); try simp only [nA, Nat.reduceBEq, Nat.reduceEqDiff, ↓reduceIte, Nat.reduceAdd, Nat.reduceSub]
   (refine zF (zH rfl rfl rfl fl33_5 (by exact sz3) (by decide) rfl) ?_); try simp only [nA, Nat.reduceBEq, Nat.reduceEqDiff, ↓reduceIte, Nat.reduceAdd, Nat.reduceSub]
   refine yD (z8 rfl rfl rfl rfl rfl rfl sz3 rfl (bl rfl) rfl) ?_; simp only [nA, ↓reduceIte]
   refine zE (hK _ ?_); clear hK K
   refine zB ?_
   refine zF (zC rfl rfl) ?_; simp only [nA, ↓reduceIte]
   (refine awR (zK rfl rfl rfl rfl ag33 yH (bl rfl) rfl) ?_); try simp only [nA, Nat.reduceBEq, Nat.reduceEqDiff, ↓reduceIte, Nat.reduceAdd, Nat.reduceSub]
   refine yD (zV rfl [(0, nav (conA l k num (cs.length + 1)))] [nav (conA l k num (cs.length + 1))] Tryz.underlying42 ze33 rfl (by simp) rfl (by simp) rfl (bl rfl) (by simp [maxLen])) ?_; simp only [nA, Nat.reduceBEq, Nat.reduceEqDiff, ↓reduceIte]
   refine yD (op_app (rows := [nav (conA l k num (cs.length + 1))]) rfl rfl rfl rfl (by simp) (.sl (es := [nav (conA l k num (cs.length + 1))]) rfl rfl) Tryz.underlying42 ze33 (by decide) (by simp) (by simp; omega) (by decide) (es' := cs.map oav ++ [nav (conA l k num (cs.length + 1))]) rfl (n := (cs ++ [conA l k num (cs.length + 1)]).length) (by simp)) ?_; (try simp only [nA, Nat.reduceBEq, Nat.reduceEqDiff, ↓reduceIte, Nat.reduceAdd, Nat.reduceSub]); refine AWL.gh (Gh.slot2 (r := 1) (es' := (cs ++ [conA l k num (cs.length + 1)]).map oav) rfl (nav_lens _ _) (nav_le _ _ rfl)) ?_; try simp only [nA, Nat.reduceBEq, Nat.reduceEqDiff, ↓reduceIte, Nat.reduceAdd, Nat.reduceSub]
   refine zF (zD rfl rfl) ?_; simp only [nA]
   refine zE ?_
   (try simp only [zI, zJ, Nat.reduceEqDiff, ↓reduceIte])
   refine hK _ ?_; clear hK K
   refine zB ?_
   refine zF (zC rfl rfl) ?_; simp only [nA, ↓reduceIte]
   (refine zF (op_subi rfl rfl rfl (by omega)) ?_); try simp only [nA, Nat.reduceBEq, Nat.reduceEqDiff, ↓reduceIte, Nat.reduceAdd, Nat.reduceSub]
   refine zF (zD rfl rfl) ?_; simp only [nA]
   refine AWL.gh (Gh.drop 2) ?_; try simp only [nA, Nat.reduceBEq, Nat.reduceEqDiff, ↓reduceIte, Nat.reduceAdd, Nat.reduceSub]
   refine zE ?_
   refine ⟨(f, nx7 l k, num + (1 + gmod (rawV l k) 2), cs ++ [conA l k num (cs.length + 1)], _, _), ⟨by simp; omega, by dsimp only; omega, by simp; omega, by rw [← hI.2.2.2]; dsimp only [ph1]; rw [if_pos (by simpa using hc2)]⟩, by dsimp only; omega, ⟨rfl, rfl, rfl, rfl, (by show AV.v (Value.int .i64 (((f + 1 : Nat) : Int) - 1)) = AV.v (Value.int .i64 (f : Nat)); congr 2; omega), trivial⟩, (by rfl), (by rfl)⟩
  (try simp only [z7] at hc); have hc2 := hc
  refine zM ?_
  refine hK _ ?_; clear hK K
  refine zB ?_
  refine zF (zC rfl rfl) ?_; simp only [nA, ↓reduceIte]
  (refine awR (zK rfl rfl rfl rfl ag33 yH (bl rfl) rfl) ?_); try simp only [nA, Nat.reduceBEq, Nat.reduceEqDiff, ↓reduceIte, Nat.reduceAdd, Nat.reduceSub]
  refine yD (zV rfl [(0, nav (conA l k num 0))] [nav (conA l k num 0)] Tryz.underlying42 ze33 rfl (by simp) rfl (by simp) rfl (bl rfl) (by simp [maxLen])) ?_; simp only [nA, Nat.reduceBEq, Nat.reduceEqDiff, ↓reduceIte]
  refine yD (op_app (rows := [nav (conA l k num 0)]) rfl rfl rfl rfl (by simp) (.sl (es := [nav (conA l k num 0)]) rfl rfl) Tryz.underlying42 ze33 (by decide) (by simp) (by simp; omega) (by decide) (es' := cs.map oav ++ [nav (conA l k num 0)]) rfl (n := (cs ++ [conA l k num 0]).length) (by simp)) ?_; (try simp only [nA, Nat.reduceBEq, Nat.reduceEqDiff, ↓reduceIte, Nat.reduceAdd, Nat.reduceSub]); refine AWL.gh (Gh.slot2 (r := 1) (es' := (cs ++ [conA l k num 0]).map oav) rfl (nav_lens _ _) (nav_le _ _ rfl)) ?_; try simp only [nA, Nat.reduceBEq, Nat.reduceEqDiff, ↓reduceIte, Nat.reduceAdd, Nat.reduceSub]
  refine zF (zD rfl rfl) ?_; simp only [nA]
  refine zE ?_
  (try simp only [zI, zJ, Nat.reduceEqDiff, ↓reduceIte])
  refine hK _ ?_; clear hK K
  refine zB ?_
  refine zF (zC rfl rfl) ?_; simp only [nA, ↓reduceIte]
  (refine zF (op_subi rfl rfl rfl (by omega)) ?_); try simp only [nA, Nat.reduceBEq, Nat.reduceEqDiff, ↓reduceIte, Nat.reduceAdd, Nat.reduceSub]
  refine zF (zD rfl rfl) ?_; simp only [nA]
  refine AWL.gh (Gh.drop 2) ?_; try simp only [nA, Nat.reduceBEq, Nat.reduceEqDiff, ↓reduceIte, Nat.reduceAdd, Nat.reduceSub]
  refine zE ?_
  refine ⟨(f, nx7 l k, num + (1 + gmod (rawV l k) 2), cs ++ [conA l k num 0], _, _), ⟨by simp; omega, by dsimp only; omega, by simp; omega, by rw [← hI.2.2.2]; dsimp only [ph1]; rw [if_neg (by simpa using hc2)]⟩, by dsimp only; omega, ⟨rfl, rfl, rfl, rfl, (by show AV.v (Value.int .i64 (((f + 1 : Nat) : Int) - 1)) = AV.v (Value.int .i64 (f : Nat)); congr 2; omega), trivial⟩, (by rfl), (by rfl)⟩
 (try simp only [z7] at hc); have hc1 := hc; obtain rfl : f = 0 := (by omega); have hE : ph1 l (yG l k0 (m + 1)) (zP l k0) 0 [] = (k, cs) := hI.2.2.2.symm
 refine yE ?_; try simp only [zI, zJ, Nat.reduceEqDiff, ↓reduceIte]
 clear hK K
 refine hK _ ?_; clear hK K
 refine zA fun K hK => ?_
 refine zA fun K hK => zB ?_
 refine zF (zC rfl rfl) ?_; simp only [nA, ↓reduceIte]
 (refine zF (op_len_sl rfl rfl rfl Tryz.underlying42) ?_); try simp only [nA, Nat.reduceBEq, Nat.reduceEqDiff, ↓reduceIte, Nat.reduceAdd, Nat.reduceSub]
 (refine zF (op_eql rfl rfl rfl) ?_); try simp only [nA, Nat.reduceBEq, Nat.reduceEqDiff, ↓reduceIte, Nat.reduceAdd, Nat.reduceSub]
 refine zE (hK _ ?_); clear hK K
 refine zL rfl rfl rfl (fun hc => ?_) (fun hc => ?_)
 ·
  (try simp only [z7] at hc); have hc3 := hc
  refine zA fun K hK => zB ?_
  refine zF (zC rfl rfl) ?_; simp only [nA, ↓reduceIte]
  refine zF (zD rfl rfl) ?_; simp only [nA]
  refine zE (hK _ ?_); clear hK K
  skip
  refine zO ?_; (try simp only [zI, zJ, Nat.reduceEqDiff, ↓reduceIte]); have hlen0 : cs.length = 0 := (by simpa using hc3); rw [show contsV l k0 m n = (k, cs) by unfold contsV; simp only [hE]; rw [if_pos hlen0]]; exact RQ.of (.inl rfl) rfl (.own (bl rfl) rfl rfl (by simp) (by simp) .nil) (by simp) rfl (one_out rfl)
 (try simp only [z7] at hc); have hc3 := hc; have hcl : 1 ≤ cs.length := (by simp at hc3; omega); have hE2 : contsV l k0 m n = ph2 l n 0 k cs := (by unfold contsV; simp only [hE]; rw [if_neg (by omega)])
 refine zM ?_
 refine hK _ ?_; clear hK K
 refine zA fun K hK => ?_
 refine zA fun K hK => zB ?_
 refine zF (zD rfl rfl) ?_; try simp only [nA, Nat.reduceBEq, Nat.reduceEqDiff, ↓reduceIte, Nat.reduceAdd, Nat.reduceSub]
 refine zE (hK _ ?_); clear hK K
 refine zN ?_
 refine yC (fun (q : Nat × Nat × Nat × List Container × Nat) => [(0, .ptr 0 0 0 0), (2, .v (.int .i64 (n : Nat))), (7, .sl 1 v 0 q.2.2.2.1.length), (11, .v (.int .i64 (q.2.1 : Nat)))]) (fun q => ⟨[(0, .own 67 [srcRow l q.2.2.1]), (v, .own 33 (q.2.2.2.1.map oav))], q.2.2.2.2⟩) (fun q => q.1 + q.2.1 = n ∧ 1 ≤ q.2.2.2.1.length ∧ q.2.2.2.1.length ≤ 100 ∧ ph2 l q.1 q.2.1 q.2.2.1 q.2.2.2.1 = contsV l k0 m n) (fun q => q.1) (n, 0, k, cs, ep) ⟨by simp, hcl, by dsimp only; omega, hE2.symm⟩ ⟨rfl, rfl, rfl, rfl, trivial⟩ rfl ?_; clear hE hE2 hc3 hI; rintro ⟨f, i, k, cs, ep⟩ ρ hI; simp only at hI; simp only [updL]
 refine zA fun K hK => ?_
 refine zA fun K hK => zB ?_
 refine zF (zC rfl rfl) ?_; simp only [nA, ↓reduceIte]
 refine zF (zC rfl rfl) ?_; simp only [nA, ↓reduceIte]
 refine zF (yP rfl rfl rfl) ?_; try simp only [nA, Nat.reduceBEq, Nat.reduceEqDiff, ↓reduceIte, Nat.reduceAdd, Nat.reduceSub]
 refine zE (hK _ ?_); clear hK K
 refine zL rfl rfl rfl (fun hc => ?_) (fun hc => ?_)
 ·
  (try simp only [z7] at hc); have hc4 := hc; obtain ⟨f, rfl⟩ : ∃ g, f = g + 1 := ⟨f - 1, by omega⟩; have hR := hI.2.2.2; unfold ph2 at hR; have hg2 := gmod_bd (x := rawV l (zP l (zP l k))) (n := 30) (by decide); have hkk := idxV_lt l (zP l k) hI.2.1
  refine zM ?_
  refine hK _ ?_; clear hK K
  refine zA fun K hK => zN ?_
  refine zA fun K hK => ?_
  refine zA fun K hK => zB ?_
  refine zF (zC rfl rfl) ?_; simp only [nA, ↓reduceIte]
  refine yD (yQ rfl en18 (C18 (n := 3) hl (by decide)) (by exact rfl) (RL.cons .ptr (RL.cons (.base (by exact View.same rfl)) (RL.nil))) (by exact ⟨_, _, _, rfl, rfl, rfl⟩) (by exact rfl) (by exact rfl) (by exact rfl)) ?_; try simp only [nA, Nat.reduceBEq, Nat.reduceEqDiff, ↓reduceIte, Nat.reduceAdd, Nat.reduceSub]
  (refine zF (op_eql rfl rfl rfl) ?_); try simp only [nA, Nat.reduceBEq, Nat.reduceEqDiff, ↓reduceIte, Nat.reduceAdd, Nat.reduceSub]
  refine zE (hK _ ?_); clear hK K
  refine zL rfl rfl rfl (fun hc => ?_) (fun hc => ?_)
  ·
   (try simp only [z7] at hc); have hc5 := hc
   refine yE ?_; try simp only [zI, zJ, Nat.reduceEqDiff, ↓reduceIte]
   clear hK K
   refine hK _ ?_; clear hK K
   refine zB ?_
   refine zF (zC rfl rfl) ?_; simp only [nA, ↓reduceIte]
   (refine zF (zR rfl rfl rfl (by omega)) ?_); try simp only [nA, Nat.reduceBEq, Nat.reduceEqDiff, ↓reduceIte, Nat.reduceAdd, Nat.reduceSub]
   refine zF (zD rfl rfl) ?_; simp only [nA]
   refine AWL.gh (Gh.drop 2) ?_; try simp only [nA, Nat.reduceBEq, Nat.reduceEqDiff, ↓reduceIte, Nat.reduceAdd, Nat.reduceSub]
   refine zE ?_
   refine ⟨(f, i + 1, zP l k, cs, _), ⟨by dsimp only; omega, hI.2.1, hI.2.2.1, by rw [← hR, if_pos (by simpa using hc5)]⟩, by dsimp only; omega, ⟨rfl, rfl, rfl, rfl, trivial⟩, (by rfl), (by rfl)⟩
  (try simp only [z7] at hc); have hc5 := hc
  refine zM ?_
  refine hK _ ?_; clear hK K
  refine zA fun K hK => zB ?_
  refine zF (zC rfl rfl) ?_; simp only [nA, ↓reduceIte]
  refine zF (zC rfl rfl) ?_; simp only [nA, ↓reduceIte]
  (refine zF (op_len_sl rfl rfl rfl Tryz.underlying42) ?_); try simp only [nA, Nat.reduceBEq, Nat.reduceEqDiff, ↓reduceIte, Nat.reduceAdd, Nat.reduceSub]
  refine yD (yQ rfl en18 (C18n (n := cs.length) hl hI.2.1 (by omega)) (by exact rfl) (RL.cons .ptr (RL.cons (.base (by exact View.same rfl)) (RL.nil))) (by exact ⟨_, _, _, rfl, rfl, rfl⟩) (by exact rfl) (by exact rfl) (by exact rfl)) ?_; try simp only [nA, Nat.reduceBEq, Nat.reduceEqDiff, ↓reduceIte, Nat.reduceAdd, Nat.reduceSub]
  refine zF (zD rfl rfl) ?_; simp only [nA]
  refine zE (hK _ ?_); clear hK K
  refine zA fun K hK => zB ?_
  refine zF (zC rfl rfl) ?_; simp only [nA, ↓reduceIte]
  refine yD (op_call (b := false) rfl en30 (C30 (i := (i : Nat))) (RL.cons (by exact View.same rfl) (RL.nil)) rfl (fun h => by cases h) rfl rfl) ?_; try simp only [nA, Nat.reduceBEq, Nat.reduceEqDiff, ↓reduceIte, Nat.reduceAdd, Nat.reduceSub]
  refine zF (zC rfl rfl) ?_; simp only [nA, ↓reduceIte]
  refine yD (yQ rfl en18 (C18 (n := 30) hl (by decide)) (by exact rfl) (RL.cons .ptr (RL.cons (.base (by exact View.same rfl)) (RL.nil))) (by exact ⟨_, _, _, rfl, rfl, rfl⟩) (by exact rfl) (by exact rfl) (by exact rfl)) ?_; try simp only [nA, Nat.reduceBEq, Nat.reduceEqDiff, ↓reduceIte, Nat.reduceAdd, Nat.reduceSub]
  (refine zF (zR rfl rfl rfl (by omega)) ?_); try simp only [nA, Nat.reduceBEq, Nat.reduceEqDiff, ↓reduceIte, Nat.reduceAdd, Nat.reduceSub]
  refine zF (zC rfl rfl) ?_; simp only [nA, ↓reduceIte]
  refine yD (zV rfl [(0, iv 0), (1, iv 0), (2, iv 0), (3, iv 0), (4, iv 1), (5, iv 2), (6, iv 3), (7, iv 4)] (([0, 0, 0, 0, 1, 2, 3, 4] : List Int).map iv) Tryz.underlying36 ze3 rfl (by simp) (fold_dense 1 (([0, 0, 0, 0, 1, 2, 3, 4] : List Int).map iv) (iv_len _)) (iv_len _) rfl (bl rfl) (by simp [maxLen])) ?_; (simp only [nA, Nat.reduceBEq, Nat.reduceEqDiff, ↓reduceIte]); refine AWL.gh (Gh.freeze 77 (bl rfl) rfl rfl (iv_flat cat8) (es' := cat8.map iv) rfl) ?_; try simp only [nA, Nat.reduceBEq, Nat.reduceEqDiff, ↓reduceIte, Nat.reduceAdd, Nat.reduceSub]
  refine yD (yQ rfl en29 (C29 (xs := cat8) hl (by decide) (by decide)) (by exact rfl) (RL.cons .ptr (RL.cons (.base (by exact View.same rfl)) (RL.nil))) (by exact ⟨_, _, _, rfl, rfl, rfl⟩) (by exact rfl) (by exact rfl) (by exact rfl)) ?_; try simp only [nA, Nat.reduceBEq, Nat.reduceEqDiff, ↓reduceIte, Nat.reduceAdd, Nat.reduceSub]
  refine zF (op_build2 (xs := [_, _, _, _, _]) rfl pl35 ze35 [(0, [_, _, _]), (1, [_]), (2, [_])] rfl rfl rfl) ?_; simp only [nA, ↓reduceIte]
  refine yD (op_alloc rfl ze35 rfl) ?_; simp only [nA, Nat.reduceBEq, Nat.reduceEqDiff, ↓reduceIte]
  refine yD (z8 rfl rfl rfl rfl rfl rfl yR rfl (bl rfl) rfl) ?_; simp only [nA, Nat.reduceBEq, Nat.reduceEqDiff, ↓reduceIte]
  refine zE (hK _ ?_); clear hK K
  refine zA fun K hK => zB ?_
  refine zF (zC rfl rfl) ?_; simp only [nA, ↓reduceIte]
  refine zF (zC rfl rfl) ?_; simp only [nA, ↓reduceIte]
  (refine zF (op_ia_sl _ _ rfl rfl rfl rfl Tryz.underlying42 rfl (by omega) (by exact yH) rfl) ?_); try simp only [nA, Nat.reduceBEq, Nat.reduceEqDiff, ↓reduceIte, Nat.reduceAdd, Nat.reduceSub]
  (refine zF (zH rfl rfl rfl fl33_7 (by exact sz31) (by decide) rfl) ?_); try simp only [nA, Nat.reduceBEq, Nat.reduceEqDiff, ↓reduceIte, Nat.reduceAdd, Nat.reduceSub]
  (refine awR (zG rfl rfl rfl (yF (f := oav) hkk) ag31 rfl rfl) ?_); try simp only [nA, Nat.reduceBEq, Nat.reduceEqDiff, ↓reduceIte, Nat.reduceAdd, Nat.reduceSub]
  (refine zF (zX rfl rfl Tryz.underlying31 (by exact .inl rfl)) ?_); try simp only [nA, Nat.reduceBEq, Nat.reduceEqDiff, ↓reduceIte, Nat.reduceAdd, Nat.reduceSub]
  refine zF (yP rfl rfl rfl) ?_; try simp only [nA, Nat.reduceBEq, Nat.reduceEqDiff, ↓reduceIte, Nat.reduceAdd, Nat.reduceSub]
  refine zE (hK _ ?_); clear hK K
  refine zL rfl rfl rfl (fun hc => ?_) (fun hc => ?_)
  ·
   (try simp only [z7] at hc); have hc6 := hc
   refine AW.ado (fun T' => (∃ es, T'.slots[1]? = some (v, .own 33 es) ∧ es.length = cs.length) ∧ T'.slots[3]? = some (ep + 1, .own 35 [(pieA l i k).av])) mix rfl ?_
   refine adPo 0 rfl (fun T' ok => zC rfl rfl) ⟨⟨_, rfl, by simp⟩, rfl⟩ (by kernel_rfl) (by kernel_rfl) ?_; simp only [nA, Nat.reduceBEq, Nat.reduceEqDiff, ↓reduceIte]
   refine adPo 1 rfl (fun T' ok => zC rfl rfl) ⟨⟨_, rfl, by simp⟩, rfl⟩ (by kernel_rfl) (by kernel_rfl) ?_; simp only [nA, ↓reduceIte]
   refine adPo 2 rfl (fun T' ok => zC rfl rfl) ⟨⟨_, rfl, by simp⟩, rfl⟩ (by kernel_rfl) (by kernel_rfl) ?_; simp only [nA, ↓reduceIte]
   refine adPo 3 rfl (fun T' ok => zC rfl rfl) ⟨⟨_, rfl, by simp⟩, rfl⟩ (by kernel_rfl) (by kernel_rfl) ?_; simp only [nA, ↓reduceIte]
   refine adPo 4 rfl (fun T' ok => (op_ia_sl (yG l (zP l k) cs.length) 11 rfl rfl rfl ok.1.choose_spec.1 Tryz.underlying42 rfl (by omega) (by exact yH) (Nat.zero_add _))) ⟨⟨_, rfl, by simp⟩, rfl⟩ (by kernel_rfl) (by kernel_rfl) ?_; try simp only [nA, Nat.reduceBEq, Nat.reduceEqDiff, ↓reduceIte, Nat.reduceAdd, Nat.reduceSub]
   refine adPo 5 rfl (fun T' ok => (zH rfl rfl ok.1.choose_spec.1 fl33_7 (by exact sz31) (by decide) rfl)) ⟨⟨_, rfl, by simp⟩, rfl⟩ (by kernel_rfl) (by kernel_rfl) ?_; try simp only [nA, Nat.reduceBEq, Nat.reduceEqDiff, ↓reduceIte, Nat.reduceAdd, Nat.reduceSub]
   refine adRo 7 rfl (fun T' ok => zK rfl rfl ok.2 rfl ag35 yR (bl rfl) rfl) ⟨⟨_, rfl, by simp⟩, rfl⟩ (by kernel_rfl) (by kernel_rfl) ?_; try simp only [nA, Nat.reduceBEq, Nat.reduceEqDiff, ↓reduceIte, Nat.reduceAdd, Nat.reduceSub]
   refine adJ2o 6 8 rfl rfl (op_load_nest rfl rfl rfl (yF (f := oav) hkk) ag31 rfl rfl) (zV rfl [(0, (pieA l i k).av)] [(pieA l i k).av] Tryz.underlying31 ze35 rfl (by simp) rfl (by simp) rfl (bl rfl) (by simp [maxLen])) (by kernel_rfl) ⟨⟨_, rfl, by simp⟩, rfl⟩ ⟨⟨_, rfl, by simp⟩, rfl⟩ ?_ ?_
   · (simp only [nA, Nat.reduceBEq, Nat.reduceEqDiff, ↓reduceIte])
     refine adJo 8 rfl (zV rfl [(0, (pieA l i k).av)] [(pieA l i k).av] Tryz.underlying31 ze35 rfl (by simp) rfl (by simp) rfl (bl rfl) (by simp [maxLen])) (by kernel_rfl) ⟨⟨_, rfl, by simp⟩, rfl⟩ ?_; simp only [nA, Nat.reduceBEq, Nat.reduceEqDiff, ↓reduceIte]
     refine adJo 9 rfl (op_app (rows := [(pieA l i k).av]) rfl rfl rfl rfl (by simp) (.sl (es := [(pieA l i k).av]) rfl rfl) Tryz.underlying31 ze35 (by decide) (by simp) (by simp only [List.length_map, List.length_cons, List.length_nil]; omega) (by decide) (es' := ((cs.getD (yG l (zP l k) cs.length) default).pieces ++ [pieA l i k]).map Piece.av) (by simp [ldc_v]) (n := ((cs.getD (yG l (zP l k) cs.length) default).pieces ++ [pieA l i k]).length) (by simp)) (by kernel_rfl) ⟨⟨_, rfl, by simp⟩, rfl⟩ ?_; try simp only [nA, Nat.reduceBEq, Nat.reduceEqDiff, ↓reduceIte, Nat.reduceAdd, Nat.reduceSub]
     refine adPo 10 rfl (fun T' ok => (op_ia_sl (yG l (zP l k) cs.length) 11 rfl rfl rfl ok.1.choose_spec.1 Tryz.underlying42 rfl (by omega) (by exact yH) (Nat.zero_add _))) ⟨⟨_, rfl, by simp⟩, rfl⟩ (by kernel_rfl) (by kernel_rfl) ?_; try simp only [nA, Nat.reduceBEq, Nat.reduceEqDiff, ↓reduceIte, Nat.reduceAdd, Nat.reduceSub]
     refine adPo 11 rfl (fun T' ok => (zH rfl rfl ok.1.choose_spec.1 fl33_7 (by exact sz31) (by decide) rfl)) ⟨⟨_, rfl, by simp⟩, rfl⟩ (by kernel_rfl) (by kernel_rfl) ?_; try simp only [nA, Nat.reduceBEq, Nat.reduceEqDiff, ↓reduceIte, Nat.reduceAdd, Nat.reduceSub]
     refine adJo 12 rfl (op_store_nest rfl rfl rfl rfl (row := (oav (cs.getD (yG l (zP l k) cs.length) default)).set 10 (.sln (cs.getD (yG l (zP l k) cs.length) default).pieces.length)) (by simp [hkk]) sz31 rfl (by decide) (by simp) (by simp) (cons_put hkk _)) (by kernel_rfl) ⟨⟨_, rfl, by simp⟩, rfl⟩ ?_; try simp only [nA, Nat.reduceBEq, Nat.reduceEqDiff, ↓reduceIte, Nat.reduceAdd, Nat.reduceSub]
     refine adDoneo (by kernel_rfl) ?_
     (try simp only [zI, zJ, Nat.reduceEqDiff, ↓reduceIte]); refine hK _ ?_; clear hK K; refine zB ?_; refine zF (zC rfl rfl) ?_; (simp only [nA, ↓reduceIte]); refine zF (zR rfl rfl rfl (by omega)) ?_; (try simp only [nA, Nat.reduceBEq, Nat.reduceEqDiff, ↓reduceIte, Nat.reduceAdd, Nat.reduceSub]); refine zF (zD rfl rfl) ?_; (simp only [nA]); refine AWL.gh (Gh.drop 2) ?_; (try simp only [nA, Nat.reduceBEq, Nat.reduceEqDiff, ↓reduceIte, Nat.reduceAdd, Nat.reduceSub]); refine zE ?_; refine ⟨(f, i + 1, nx4 l k, cs.set (yG l (zP l k) cs.length) (addP (cs.getD (yG l (zP l k) cs.length) default) (pieA l i k)), _), ⟨by dsimp only; omega, (by simp; omega), (by simp; omega), by rw [← hR, if_neg (by simpa using hc5), if_pos (by simpa using hc6)]⟩, by dsimp only; omega, ⟨rfl, rfl, (by show _ = AV.sl 1 v 0 (cs.set (yG l (zP l k) cs.length) (addP (cs.getD (yG l (zP l k) cs.length) default) (pieA l i k))).length; rw [List.length_set]; rfl), rfl, trivial⟩, (by rfl), (by rfl)⟩
   (simp only [nA, Nat.reduceBEq, Nat.reduceEqDiff, ↓reduceIte])
   refine adJo 6 rfl (op_load_nest rfl rfl rfl (yF (f := oav) hkk) ag31 rfl rfl) (by kernel_rfl) ⟨⟨_, rfl, by simp⟩, rfl⟩ ?_; simp only [nA, Nat.reduceBEq, Nat.reduceEqDiff, ↓reduceIte]
   refine adJo 9 rfl (op_app (rows := [(pieA l i k).av]) rfl rfl rfl rfl (by simp) (.sl (es := [(pieA l i k).av]) rfl rfl) Tryz.underlying31 ze35 (by decide) (by simp) (by simp only [List.length_map, List.length_cons, List.length_nil]; omega) (by decide) (es' := ((cs.getD (yG l (zP l k) cs.length) default).pieces ++ [pieA l i k]).map Piece.av) (by simp [ldc_v]) (n := ((cs.getD (yG l (zP l k) cs.length) default).pieces ++ [pieA l i k]).length) (by simp)) (by kernel_rfl) ⟨⟨_, rfl, by simp⟩, rfl⟩ ?_; try simp only [nA, Nat.reduceBEq, Nat.reduceEqDiff, ↓reduceIte, Nat.reduceAdd, Nat.reduceSub]
   refine adPo 10 rfl (fun T' ok => (op_ia_sl (yG l (zP l k) cs.length) 11 rfl rfl rfl ok.1.choose_spec.1 Tryz.underlying42 rfl (by omega) (by exact yH) (Nat.zero_add _))) ⟨⟨_, rfl, by simp⟩, rfl⟩ (by kernel_rfl) (by kernel_rfl) ?_; try simp only [nA, Nat.reduceBEq, Nat.reduceEqDiff, ↓reduceIte, Nat.reduceAdd, Nat.reduceSub]
   refine adPo 11 rfl (fun T' ok => (zH rfl rfl ok.1.choose_spec.1 fl33_7 (by exact sz31) (by decide) rfl)) ⟨⟨_, rfl, by simp⟩, rfl⟩ (by kernel_rfl) (by kernel_rfl) ?_; try simp only [nA, Nat.reduceBEq, Nat.reduceEqDiff, ↓reduceIte, Nat.reduceAdd, Nat.reduceSub]
   refine adJo 12 rfl (op_store_nest rfl rfl rfl rfl (row := (oav (cs.getD (yG l (zP l k) cs.length) default)).set 10 (.sln (cs.getD (yG l (zP l k) cs.length) default).pieces.length)) (by simp [hkk]) sz31 rfl (by decide) (by simp) (by simp) (cons_put hkk _)) (by kernel_rfl) ⟨⟨_, rfl, by simp⟩, rfl⟩ ?_; try simp only [nA, Nat.reduceBEq, Nat.reduceEqDiff, ↓reduceIte, Nat.reduceAdd, Nat.reduceSub]
   refine adDoneo (by kernel_rfl) ?_
   (try simp only [zI, zJ, Nat.reduceEqDiff, ↓reduceIte]); refine hK _ ?_; clear hK K; refine zB ?_; refine zF (zC rfl rfl) ?_; (simp only [nA, ↓reduceIte]); refine zF (zR rfl rfl rfl (by omega)) ?_; (try simp only [nA, Nat.reduceBEq, Nat.reduceEqDiff, ↓reduceIte, Nat.reduceAdd, Nat.reduceSub]); refine zF (zD rfl rfl) ?_; (simp only [nA]); refine AWL.gh (Gh.drop 2) ?_; (try simp only [nA, Nat.reduceBEq, Nat.reduceEqDiff, ↓reduceIte, Nat.reduceAdd, Nat.reduceSub]); refine zE ?_; refine ⟨(f, i + 1, nx4 l k, cs.set (yG l (zP l k) cs.length) (addP (cs.getD (yG l (zP l k) cs.length) default) (pieA l i k)), _), ⟨by dsimp only; omega, (by simp; omega), (by simp; omega), by rw [← hR, if_neg (by simpa using hc5), if_pos (by simpa using hc6)]⟩, by dsimp only; omega, ⟨rfl, rfl, (by show _ = AV.sl 1 v 0 (cs.set (yG l (zP l k) cs.length) (addP (cs.getD (yG l (zP l k) cs.length) default) (pieA l i k))).length; rw [List.length_set]; rfl), rfl, trivial⟩, (by rfl), (by rfl)⟩
  (try simp only [z7] at hc); have hc6 := hc
  refine zM ?_
  (try simp only [zI, zJ, Nat.reduceEqDiff, ↓reduceIte])
  refine hK _ ?_; clear hK K
  refine zB ?_
  refine zF (zC rfl rfl) ?_; simp only [nA, ↓reduceIte]
  (refine zF (zR rfl rfl rfl (by omega)) ?_); try simp only [nA, Nat.reduceBEq, Nat.reduceEqDiff, ↓reduceIte, Nat.reduceAdd, Nat.reduceSub]
  refine zF (zD rfl rfl) ?_; simp only [nA]
  refine AWL.gh (Gh.drop 2) ?_; try simp only [nA, Nat.reduceBEq, Nat.reduceEqDiff, ↓reduceIte, Nat.reduceAdd, Nat.reduceSub]
  refine zE ?_
  refine ⟨(f, i + 1, nx4 l k, cs, _), ⟨by dsimp only; omega, hI.2.1, hI.2.2.1, by rw [← hR, if_neg (by simpa using hc5), if_neg (by omega)]⟩, by dsimp only; omega, ⟨rfl, rfl, rfl, rfl, trivial⟩, (by rfl), (by rfl)⟩
 (try simp only [z7] at hc); have hc4 := hc; obtain rfl : f = 0 := (by omega); have hE : contsV l k0 m n = (k, cs) := hI.2.2.2.symm
 refine yE ?_; try simp only [zI, zJ, Nat.reduceEqDiff, ↓reduceIte]
 clear hK K
 refine hK _ ?_; clear hK K
 refine zA fun K hK => zB ?_
 refine zF (zC rfl rfl) ?_; simp only [nA, ↓reduceIte]
 refine zF (zD rfl rfl) ?_; simp only [nA]
 refine zE (hK _ ?_); clear hK K
 skip
 refine zO ?_; (try simp only [zI, zJ, Nat.reduceEqDiff, ↓reduceIte]); rw [hE]; exact RQ.of (.inl rfl) rfl (.own (bl rfl) rfl rfl (by simp) (by simp) .nil) (by simp) rfl (one_out rfl)
set_option maxRecDepth 100000
def delL (l : List Piece) (p : Plate) : List Piece := l.take (posP l p) ++ l.drop (posP l p + 1)
structure InvA (num : Int) (cs : List Container) : Prop where
 co : ∀ c ∈ cs, coB c = true
 nil : ∀ c ∈ cs, c.pieces = []
 le : ∀ c ∈ cs, c.number ≤ num
 asc : cs.Pairwise fun c d => c.number < d.number
 pos : ∀ (i : Nat) (h : i < cs.length), cs[i].position = 0 ∨ cs[i].position = i + 1
theorem flB_N {x : Int} (h : 0 ≤ x ∧ x < 3) : flB (flightN x) = true := by
 rcases (by omega : x = 0 ∨ x = 1 ∨ x = 2) with rfl | rfl | rfl <;> kernel_rfl
theorem coB_intro {c : Container} (h1 : 1 ≤ c.number ∧ c.number ≤ 999) (h2 : flB c.flight = true) (h3 : 0 ≤ c.categories ∧ c.categories ≤ 31) (h4 : 0 ≤ c.limit ∧ c.limit ≤ 20000) (h5 : 0 ≤ c.most ∧ c.most ≤ 60) (h6 : 0 ≤ c.position ∧ c.position ≤ 24) (h7 : -50 ≤ c.arm ∧ c.arm ≤ 50) : coB c = true := by
 unfold coB inB
 rw [h2]
 simp
 omega
theorem conA_ok {l : List Int} {k : Nat} {num pos : Int} (h1 : 0 ≤ num ∧ num ≤ 900) (h2 : 0 ≤ pos ∧ pos ≤ 24) : coB (conA l k num pos) = true := by
 have hg1 := gmod_bd (x := rawV l k) (n := 2) (by decide)
 have hg2 := gmod_bd (x := rawV l (zP l k)) (n := 3) (by decide)
 have hg3 := gmod_bd (x := rawV l (nx3 l k)) (n := 300) (by decide)
 have hg4 := gmod_bd (x := rawV l (nx4 l k)) (n := 10) (by decide)
 have hg5 := gmod_bd (x := rawV l (nx5 l k)) (n := 21) (by decide)
 have hm : yI l (nx2 l k) mask6 ∈ mask6 := pickV_mem (by decide)
 have hm2 : 0 ≤ yI l (nx2 l k) mask6 ∧ yI l (nx2 l k) mask6 ≤ 31 := by simp at hm; omega
 refine coB_intro ?_ (flB_N hg2) hm2 ?_ ?_ h2 ?_ <;> dsimp only [conA] <;> omega
theorem InvA.step {num : Int} {cs : List Container} (h : InvA num cs) (l : List Int) (k : Nat) {pos : Int} (h1 : 0 ≤ num ∧ num ≤ 900) (hl : cs.length ≤ 23) (hp : pos = 0 ∨ pos = cs.length + 1) : InvA (num + (1 + gmod (rawV l k) 2)) (cs ++ [conA l k num pos]) := by
 have hg1 := gmod_bd (x := rawV l k) (n := 2) (by decide)
 refine ⟨fun c hc => ?_, fun c hc => ?_, fun c hc => ?_, ?_, fun i hi => ?_⟩
 · rcases List.mem_append.1 hc with hc | hc
   · exact h.co c hc
   obtain rfl : c = _ := by simpa using hc
   exact conA_ok h1 (by omega)
 · rcases List.mem_append.1 hc with hc | hc
   · exact h.nil c hc
   obtain rfl : c = _ := by simpa using hc
   rfl
 · rcases List.mem_append.1 hc with hc | hc
   · have := h.le c hc; omega
   obtain rfl : c = _ := by simpa using hc
   exact Int.le_refl _
 · refine List.pairwise_append.2 ⟨h.asc, List.pairwise_singleton _ _, fun a ha b hb => ?_⟩
   obtain rfl : b = _ := by simpa using hb
   have := h.le a ha
   show a.number < num + (1 + gmod (rawV l k) 2)
   omega
 by_cases hi' : i < cs.length
 · rw [List.getElem_append_left hi']; exact h.pos i hi'
 have : i = cs.length := by simp at hi; omega
 subst this
 simp
 exact hp
theorem ph1_inv (l : List Int) : ∀ (f k : Nat) (num : Int) (cs : List Container), InvA num cs → 0 ≤ num → num ≤ 2 * cs.length → cs.length + f ≤ 24 → ∃ num', InvA num' (ph1 l f k num cs).2 ∧ (ph1 l f k num cs).2.length = cs.length + f
 | 0, k, num, cs, h, _, _, _ => ⟨num, h, rfl⟩
 | f + 1, k, num, cs, h, h0, h1, h2 => by
   have hg1 := gmod_bd (x := rawV l k) (n := 2) (by decide)
   unfold ph1
   obtain ⟨num', h3, h4⟩ := ph1_inv l f (nx7 l k) (num + (1 + gmod (rawV l k) 2)) (cs ++ [conA l k num (if gmod (rawV l (nx6 l k)) 3 > 0 then cs.length + 1 else 0)]) (h.step l k (by omega) (by omega) (by split <;> omega)) (by omega) (by simp; omega) (by simp; omega)
   exact ⟨num', h3, by rw [h4]; simp; omega⟩
structure InvB (i : Nat) (cs : List Container) : Prop where
 co : ∀ c ∈ cs, coB c = true
 asc : cs.Pairwise fun c d => c.number < d.number
 pos : ∀ (i : Nat) (h : i < cs.length), cs[i].position = 0 ∨ cs[i].position = i + 1
 pasc : ∀ c ∈ cs, AscP c.pieces
 pok : ∀ c ∈ cs, ∀ x ∈ c.pieces, piB x = true
 below : ∀ c ∈ cs, ∀ x ∈ c.pieces, x.plate.lead = 0 ∧ x.plate.airline = 117 ∧ x.plate.serial < 1000 + i
 len : ∀ c ∈ cs, c.pieces.length ≤ 20
 disj : cs.Pairwise fun c d => ∀ x ∈ c.pieces, ∀ y ∈ d.pieces, x.plate ≠ y.plate
theorem InvA.b {num : Int} {cs : List Container} (h : InvA num cs) : InvB 0 cs :=
 ⟨h.co, h.asc, h.pos, fun c hc => by rw [h.nil c hc]; exact List.Pairwise.nil, fun c hc x hx => by rw [h.nil c hc] at hx; simp at hx, fun c hc x hx => by rw [h.nil c hc] at hx; simp at hx, fun c hc => by rw [h.nil c hc]; simp,
   List.pairwise_iff_getElem.2 fun i j hi hj _ x hx => by rw [h.nil _ (List.getElem_mem hi)] at hx; simp at hx⟩
theorem InvB.skip {i : Nat} {cs : List Container} (h : InvB i cs) : InvB (i + 1) cs :=
 ⟨h.co, h.asc, h.pos, h.pasc, h.pok, fun c hc x hx => by have := h.below c hc x hx; omega, h.len, h.disj⟩
theorem InvB.val {i : Nat} {cs : List Container} (h : InvB i cs) {c : Container} (hc : c ∈ cs) : valC c = 0 :=
 val_intro (h.co c hc) (by have := h.len c hc; omega) (h.pok c hc) (ascP_iff.1 (h.pasc c hc))
theorem InvB.add {i : Nat} {cs : List Container} (h : InvB i cs) (hi : i < 100) {q : Nat} (hq : q < cs.length) {p : Piece} (hpp : p.plate = yT i) (hp : piB p = true) (hl : cs[q].pieces.length < 20) : InvB (i + 1) (cs.set q (addP cs[q] p)) := by
 have hpl := plates_lt (i := i) hi
 have hqm := List.getElem_mem hq
 have hin : ∀ c ∈ cs.set q (addP cs[q] p), c ∈ cs ∨ c = addP cs[q] p := fun c hc => List.mem_or_eq_of_mem_set hc
 have hnew : ∀ c ∈ cs, ∀ x ∈ c.pieces, PLt x.plate p.plate := fun c hc x hx => by
   obtain ⟨h1, h2, h3⟩ := h.below c hc x hx
   rw [hpp, hpl]; unfold PLt; simp only; omega
 have hpc : ∀ x ∈ (addP cs[q] p).pieces, x ∈ cs[q].pieces ∨ x = p := fun x hx => by
   rcases List.mem_append.1 hx with hx | hx
   · exact .inl hx
   exact .inr (by simpa using hx)
 have hnum : ∀ (j : Nat) (hj : j < (cs.set q (addP cs[q] p)).length), (cs.set q (addP cs[q] p))[j].number = (cs[j]'(by simpa using hj)).number := fun j hj => by
   rw [List.getElem_set]
   split
   · rename_i e; subst e; rfl
   rfl
 have hpos : ∀ (j : Nat) (hj : j < (cs.set q (addP cs[q] p)).length), (cs.set q (addP cs[q] p))[j].position = (cs[j]'(by simpa using hj)).position := fun j hj => by
   rw [List.getElem_set]
   split
   · rename_i e; subst e; rfl
   rfl
 refine ⟨fun c hc => ?_, ?_, fun j hj => ?_, fun c hc => ?_, fun c hc x hx => ?_, fun c hc x hx => ?_, fun c hc => ?_, ?_⟩
 · rcases hin c hc with hc | rfl
   · exact h.co c hc
   exact (show coB cs[q] = true from h.co _ hqm)
 · refine List.pairwise_iff_getElem.2 fun a b ha hb hab => ?_
   have := List.pairwise_iff_getElem.1 h.asc a b (by simpa using ha) (by simpa using hb) hab
   rw [hnum, hnum]
   exact this
 · have := h.pos j (by simpa using hj)
   rw [hpos]
   exact this
 · rcases hin c hc with hc | rfl
   · exact h.pasc c hc
   refine List.pairwise_append.2 ⟨h.pasc _ hqm, List.pairwise_singleton _ _, fun a ha b hb => ?_⟩
   obtain rfl : b = _ := by simpa using hb
   exact hnew _ hqm a ha
 · rcases hin c hc with hc | rfl
   · exact h.pok c hc x hx
   rcases hpc x hx with hx | rfl
   · exact h.pok _ hqm x hx
   exact hp
 · rcases hin c hc with hc | rfl
   · have := h.below c hc x hx; omega
   rcases hpc x hx with hx | rfl
   · have := h.below _ hqm x hx; omega
   rw [hpp, hpl]; exact ⟨rfl, rfl, by dsimp only; omega⟩
 · rcases hin c hc with hc | rfl
   · exact h.len c hc
   unfold addP; simp; omega
 refine List.pairwise_iff_getElem.2 fun a b ha hb hab => ?_
 have ha' : a < cs.length := by simpa using ha
 have hb' : b < cs.length := by simpa using hb
 have h0 := List.pairwise_iff_getElem.1 h.disj a b ha' hb' hab
 rw [List.getElem_set, List.getElem_set]
 split
 · rename_i e
   subst e
   rw [if_neg (by omega)]
   intro x hx y hy
   rcases hpc x hx with hx | rfl
   · exact h0 x hx y hy
   intro e; have := hnew _ (List.getElem_mem hb') y hy; rw [e] at this; exact PLt.irrefl _ this
 split
 · rename_i e
   subst e
   intro x hx y hy
   rcases hpc y hy with hy | rfl
   · exact h0 x hx y hy
   intro e; have := hnew _ (List.getElem_mem ha') x hx; rw [e] at this; exact PLt.irrefl _ this
 exact h0
theorem pieA_ok (l : List Int) (i k : Nat) : piB (pieA l i k) = true := by
 have h2 := gmod_bd (x := rawV l (nx2 l k)) (n := 30) (by decide)
 have h3 : yI l (nx3 l k) cat8 ∈ cat8 := pickV_mem (by decide)
 have h4 : 0 ≤ yI l (nx3 l k) cat8 ∧ yI l (nx3 l k) cat8 ≤ 4 := by
   simp at h3; omega
 have e : ∀ {a b c d : Prop} [Decidable a] [Decidable b] [Decidable c] [Decidable d], a → b → c → d → ((true && (decide a && decide b)) && (decide c && decide d)) = true := fun h1 h2 h3 h4 => by simp [h1, h2, h3, h4]
 unfold piB inB
 rw [show plB (pieA l i k).plate = true from plates_ok _]
 refine e ?_ ?_ ?_ ?_ <;> dsimp only [pieA] <;> omega
theorem ph2_inv (l : List Int) : ∀ (f i k : Nat) (cs : List Container), InvB i cs → i + f ≤ 100 → 1 ≤ cs.length → InvB (i + f) (ph2 l f i k cs).2 ∧ (ph2 l f i k cs).2.length = cs.length
 | 0, i, k, cs, h, _, _ => ⟨h, rfl⟩
 | f + 1, i, k, cs, h, hi, h1 => by
   unfold ph2
   rw [show i + (f + 1) = (i + 1) + f by omega]
   split
   · exact ph2_inv l f (i + 1) _ cs h.skip (by omega) h1
   split
   · rename_i hlt
     have hq := idxV_lt l (zP l k) h1
     have e : cs.getD (yG l (zP l k) cs.length) default = cs[yG l (zP l k) cs.length] := by rw [List.getD_eq_getElem?_getD, List.getElem?_eq_getElem hq]; rfl
     rw [e] at hlt ⊢
     have := ph2_inv l f (i + 1) (nx4 l k) _ (h.add (by omega) hq (p := pieA l i k) rfl (pieA_ok l i k) (by omega)) (by omega) (by simpa using h1)
     rw [List.length_set] at this
     exact this
   exact ph2_inv l f (i + 1) _ cs h.skip (by omega) h1
theorem conts_inv (l : List Int) (k m n : Nat) (hm : m ≤ 23) (hn : n ≤ 100) : InvB n (contsV l k m n).2 ∧ (contsV l k m n).2.length = yG l k (m + 1) := by
 have hk := idxV_lt l k (n := m + 1) (by omega)
 obtain ⟨num, h1, h2⟩ := ph1_inv l (yG l k (m + 1)) (zP l k) 0 [] ⟨by simp, by simp, by simp, List.Pairwise.nil, fun i h => by simp at h⟩ (by omega) (by simp) (by simp; omega)
 unfold contsV
 simp only
 split
 · rename_i h0
   have he : (ph1 l (yG l k (m + 1)) (zP l k) 0 []).2 = [] := List.eq_nil_of_length_eq_zero h0
   rw [he] at h2 ⊢
   exact ⟨⟨by simp, List.Pairwise.nil, fun i h => by simp at h, by simp, by simp, by simp, by simp, List.Pairwise.nil⟩, by simpa using h2⟩
 have := ph2_inv l n 0 (ph1 l (yG l k (m + 1)) (zP l k) 0 []).1 _ h1.b (by omega) (by omega)
 rw [Nat.zero_add] at this
 exact ⟨this.1, by rw [this.2, h2]; simp⟩
set_option maxRecDepth 100000
theorem fz_cons (cs ds : List Container) : (cs.map oav ++ ds.map Container.av).map (·.map fz1) = (cs ++ ds).map Container.av := by
 rw [List.map_append, List.map_append, List.map_map, List.map_map]
 rfl
theorem flat2_cons (cs ds : List Container) : ∀ r ∈ cs.map oav ++ ds.map Container.av, ∀ c ∈ r, flat2 c := fun r hr c hc => by
 rcases List.mem_append.1 hr with hr | hr
 · obtain ⟨x, _, rfl⟩ := List.mem_map.1 hr
   simp only [List.mem_cons, List.not_mem_nil, or_false] at hc
   rcases hc with rfl | rfl | rfl | rfl | rfl | rfl | rfl | rfl | rfl | rfl | rfl <;> first | exact .inl rfl | exact .inr ⟨_, _, rfl, av_flat _⟩
 obtain ⟨x, _, rfl⟩ := List.mem_map.1 hr
 simp only [Container.av, List.mem_cons, List.not_mem_nil, or_false] at hc
 rcases hc with rfl | rfl | rfl | rfl | rfl | rfl | rfl | rfl | rfl | rfl | rfl <;> exact .inl rfl
theorem get_of {α β : Type} {f : α → β} {xs : List α} {m : Nat} {x : α} (h : xs[m]? = some x) : (xs.map f)[m]? = some (f x) := by simp [h]
theorem conts21 (l : List Int) (k m n : Nat) (hl : l.length ≤ 2000) (hm : m ≤ 23) (hn : n ≤ 100) : ∃ k' cs, Fn Tryz.prog 10 [.own 67 [srcRow l k]] [.ptr 0 0 0 0, .v (.int .i64 (m : Nat)), .v (.int .i64 (n : Nat))] [.own 33 (cs.map oav)] [.own 67 [srcRow l k']] ∧ InvB n cs ∧ cs.length ≤ m :=
 ⟨_, _, C10 hl (by omega) (by omega), (conts_inv l k m n hm hn).1, by have := idxV_lt l k (n := m + 1) (by omega); rw [(conts_inv l k m n hm hn).2]; omega⟩
set_option maxRecDepth 100000
abbrev plV (p : Plate) : Value := .agg #[.int .i64 p.lead, .int .i64 p.airline, .int .i64 p.serial]
abbrev spV (c : Container) : Value := .agg #[.string c.flight.carrier, .int .i64 c.flight.number, .string c.flight.suffix, .int .i64 c.flight.day, .int .i64 c.position]
structure Spot where
 carrier : List UInt8
 number : Int
 suffix : List UInt8
 day : Int
 position : Int
 deriving DecidableEq
def spotOf (c : Container) : Spot := ⟨c.flight.carrier.data.toList, c.flight.number, c.flight.suffix.data.toList, c.flight.day, c.position⟩
theorem plV_mem {p : Plate} {l : List Plate} : decide (p ∈ l) = true ↔ plV p ∈ l.map plV := by
 rw [decide_eq_true_eq, List.mem_map]
 constructor
 · intro h; exact ⟨p, h, rfl⟩
 rintro ⟨q, hq, e⟩
 obtain ⟨a, b, c⟩ := p
 obtain ⟨a', b', c'⟩ := q
 simp at e
 obtain ⟨rfl, rfl, rfl⟩ := e
 exact hq
theorem bytes_ext {a b : ByteArray} (h : a.data.toList = b.data.toList) : a = b := by
 cases a; cases b
 simp at h
 rw [h]
theorem spV_mem {c : Container} {l : List Container} : decide (spotOf c ∈ l.map spotOf) = true ↔ spV c ∈ l.map spV := by
 rw [decide_eq_true_eq, List.mem_map, List.mem_map]
 have key : ∀ d : Container, spotOf d = spotOf c ↔ spV d = spV c := fun d => by
   unfold spotOf
   simp only [Spot.mk.injEq]
   constructor
   · rintro ⟨h1, h2, h3, h4, h5⟩
     show Value.agg _ = Value.agg _
     rw [bytes_ext h1, h2, bytes_ext h3, h4, h5]
   intro h
   simp at h
   obtain ⟨h1, h2, h3, h4, h5⟩ := h
   exact ⟨by rw [h1], h2, by rw [h3], h4, h5⟩
 constructor
 · rintro ⟨d, hd, e⟩; exact ⟨d, hd, (key d).1 e⟩
 rintro ⟨d, hd, e⟩; exact ⟨d, hd, (key d).2 e⟩
def chkP : List Piece → List Plate → Option (List Plate)
 | [], pl => some pl
 | p :: l, pl => if p.plate ∈ pl then none else chkP l (p.plate :: pl)
theorem chkP_nil (pl : List Plate) : chkP [] pl = some pl := rfl
theorem chkP_cons (p : Piece) (l : List Piece) (pl : List Plate) : chkP (p :: l) pl = if p.plate ∈ pl then none else chkP l (p.plate :: pl) := rfl
def prevBad (o : Option Int) (n : Int) : Bool := match o with
 | none => false
 | some m => decide (n ≤ m)
def chk : Option Int → List Container → List Container → List Plate → Int
 | _, [], _, _ => 0
 | o, c :: cs, sp, pl => if valC c ≠ 0 then valC c else if prevBad o c.number = true then 9 else if c.position ≠ 0 ∧ spotOf c ∈ sp.map spotOf then 7 else
   match chkP c.pieces pl with
   | none => 5
   | some pl' => chk (some c.number) cs (if c.position ≠ 0 then c :: sp else sp) pl'
def chkL (xs : List Container) : Int := if (xs.length : Int) > 24 then 2 else chk none xs [] []
def prevN (xs : List Container) (i : Nat) : Option Int := if i = 0 then none else some (xs.getD (i - 1) default).number
theorem prevN_succ {xs : List Container} {i : Nat} {c : Container} (h : xs[i]? = some c) : prevN xs (i + 1) = some c.number := by
 unfold prevN
 rw [if_neg (by omega), Nat.add_sub_cancel, List.getD_eq_getElem?_getD, h]
 rfl
theorem prevBad_eq (xs : List Container) (i : Nat) (n : Int) : prevBad (prevN xs i) n = (decide ((i : Int) > 0) && decide (n ≤ (xs.getD (i - 1) default).number)) := by
 unfold prevN
 by_cases h : i = 0
 · subst h; rfl
 rw [if_neg h, show decide ((i : Int) > 0) = true from decide_eq_true (by omega)]
 rfl
theorem drop_cons {α : Type} {xs : List α} {i : Nat} {c : α} (h : xs[i]? = some c) : xs.drop i = c :: xs.drop (i + 1) := by
 obtain ⟨hi, rfl⟩ := List.getElem?_eq_some_iff.1 h
 exact List.drop_eq_getElem_cons hi
theorem fl_range {f : Flight} (h : flB f = true) : f.carrier.size ≤ maxLen ∧ (Lit.int .i64 f.number).wf = true ∧ f.suffix.size ≤ maxLen ∧ (Lit.int .i64 f.day).wf = true := by
 unfold flB carB lettersB at h
 simp at h
 unfold maxLen
 exact ⟨by omega, wf64 (by omega), by omega, wf64 (by omega)⟩
theorem co_parts {c : Container} (h : coB c = true) : flB c.flight = true ∧ 0 ≤ c.position ∧ c.position ≤ 24 ∧ 1 ≤ c.number ∧ c.number ≤ 999 := by
 unfold coB inB at h
 simp at h
 exact ⟨h.1.1.1.1.1.2, by omega, by omega, by omega, by omega⟩
theorem pl_range {p : Plate} (h : plB p = true) : (Lit.int .i64 p.lead).wf = true ∧ (Lit.int .i64 p.airline).wf = true ∧ (Lit.int .i64 p.serial).wf = true := by
 unfold plB at h
 simp at h
 exact ⟨wf64 (by omega), wf64 (by omega), wf64 (by omega)⟩
set_option maxHeartbeats 4000000 in
theorem C37 {xs : List Container} (hx : xs.length ≤ 1000000) : Fn Tryz.prog 37 [] [.ro (xs.map Container.av)] [.v (.int .i64 (chkL xs))] [] := by
 refine Spec.body Tryz.func37 rfl Tryz.ntmps37 (by simp) rfl ?_; intro S0 own0 v0 w0
 refine zA fun K hK => zB ?_
 refine zF (zD rfl rfl) ?_
 refine zE (hK _ ?_); clear hK K; try simp only [nA, Nat.reduceBEq, Nat.reduceEqDiff, ↓reduceIte, Nat.reduceAdd, Nat.reduceSub]
 refine zA fun K hK => ?_
 refine zA fun K hK => zB ?_
 refine zF (zC rfl rfl) ?_
 refine zF (zX rfl rfl Tryz.underlying42 (by exact .inr (.inl ⟨_, rfl, rfl⟩))) ?_
 refine zF (op_gtr rfl rfl rfl) ?_
 refine zE (hK _ ?_); clear hK K; simp only [nA, ↓reduceIte]
 refine zL rfl rfl rfl (fun hc => ?_) (fun hc => ?_)
 ·
  (try simp only [z7] at hc); have hc1 := hc
  refine zA fun K hK => zB ?_
  refine zF (zD rfl rfl) ?_
  refine zE (hK _ ?_); clear hK K; try simp only [nA, Nat.reduceBEq, Nat.reduceEqDiff, ↓reduceIte, Nat.reduceAdd, Nat.reduceSub]
  skip
  refine zO ?_; (try simp only [zI, zJ, Nat.reduceEqDiff, ↓reduceIte]); rw [show chkL xs = 2 by unfold chkL; rw [if_pos (by omega)]]; exact zS rfl (.tmp (bl rfl) rfl rfl .nil)
 (try simp only [z7] at hc); have hc1 := hc
 refine zM ?_
 refine hK _ ?_; clear hK K
 refine zA fun K hK => zB ?_
 refine yD (op_makeMap rfl Tryz.underlying96 Tryz.underlying4 kd99) ?_; simp only [nA, Nat.reduceBEq, Nat.reduceEqDiff, ↓reduceIte]
 refine yD (op_makeMap rfl Tryz.underlying97 Tryz.underlying4 kd23) ?_; simp only [nA, Nat.reduceBEq, Nat.reduceEqDiff, ↓reduceIte]
 refine zF (zD rfl rfl) ?_
 refine zF (zD rfl rfl) ?_
 refine zE (hK _ ?_); clear hK K; simp only [nA, ↓reduceIte]
 refine zA fun K hK => ?_
 refine zA fun K hK => zB ?_
 refine zF (zC rfl rfl) ?_
 refine zF (zX rfl rfl Tryz.underlying42 (by exact .inr (.inl ⟨_, rfl, rfl⟩))) ?_
 refine zF (zC rfl rfl) ?_
 refine zE (hK _ ?_); clear hK K; simp only [nA, ↓reduceIte]
 refine zN ?_
 refine yC (fun (q : Nat × List Container × List Plate × Nat) => [(0, .ro (xs.map Container.av)), (3, .mp 0 1), (4, .mp 1 2), (16, .ro (xs.map Container.av)), (17, .v (.int .i64 (xs.length : Nat))), (18, .v (.int .i64 (q.1 : Nat)))]) (fun q => ⟨[(1, .om 96 (q.2.1.map spV)), (2, .om 97 (q.2.2.1.map plV))], q.2.2.2⟩) (fun q => q.1 ≤ xs.length ∧ q.2.1.length ≤ q.1 ∧ q.2.2.1.length ≤ 60 * q.1 ∧ chk (prevN xs q.1) (xs.drop q.1) q.2.1 q.2.2.1 = chkL xs) (fun q => xs.length - q.1) (0, [], [], 3) ⟨by simp, by simp, by simp, by unfold chkL; rw [if_neg (by omega)]; rfl⟩ ⟨rfl, rfl, rfl, rfl, rfl, rfl, trivial⟩ rfl ?_; rintro ⟨i, sp, pl, e⟩ ρ hI; simp only at hI; simp only [updL]
 refine zA fun K hK => zB ?_
 refine zF (yP rfl rfl rfl) ?_
 refine zE (hK _ ?_); clear hK K; try simp only [nA, Nat.reduceBEq, Nat.reduceEqDiff, ↓reduceIte, Nat.reduceAdd, Nat.reduceSub]
 refine zA fun K hK => ?_
 refine zL rfl rfl rfl (fun hc => ?_) (fun hc => ?_)
 ·
  (try simp only [z7] at hc); have hc2 := hc; have hlt : i < xs.length := (by simpa using hc2); obtain ⟨c, hci⟩ : ∃ c, xs[i]? = some c := ⟨xs[i], List.getElem?_eq_getElem hlt⟩; have hR := hI.2.2.2; rw [drop_cons hci] at hR; unfold chk at hR
  refine zM ?_
  refine hK _ ?_; clear hK K
  refine zA fun K hK => zN ?_
  refine zA fun K hK => zB ?_
  refine zF (zC rfl rfl) ?_
  refine zF (zW i rfl (.inl rfl) rfl Tryz.underlying42 rfl (get_of hci) (by exact yH) (bl rfl)) ?_
  refine awR (zY rfl rfl ag33 yH (bl rfl) (by decide) rfl) ?_
  refine yD (op_alloc rfl ze33 rfl) ?_; simp only [nA, Nat.reduceBEq, Nat.reduceEqDiff, ↓reduceIte]
  refine zF (zD rfl rfl) ?_
  refine yD (z8 rfl rfl rfl rfl rfl rfl yH rfl (bl rfl) rfl) ?_; simp only [nA, Nat.reduceBEq, Nat.reduceEqDiff, ↓reduceIte]
  refine zE (hK _ ?_); clear hK K
  refine zA fun K hK => ?_
  refine zA fun K hK => zB ?_
  refine awR (zK rfl rfl rfl rfl ag33 yH (bl rfl) rfl) ?_
  refine yD (OpQ.j (zT (b := true) rfl en60 (C60 (c := c)) (RL.cons (by exact View.same rfl) (RL.nil)) rfl)) ?_; try simp only [nA, Nat.reduceBEq, Nat.reduceEqDiff, ↓reduceIte, Nat.reduceAdd, Nat.reduceSub]
  refine zF (zD rfl rfl) ?_
  refine zE (hK _ ?_); clear hK K; simp only [nA]
  refine zA fun K hK => zB ?_
  refine zF (zC rfl rfl) ?_
  refine zF (op_neq rfl rfl rfl) ?_
  refine zE (hK _ ?_); clear hK K; simp only [nA]
  refine zL rfl rfl rfl (fun hc => ?_) (fun hc => ?_)
  ·
   (try simp only [z7] at hc); have hc3 := hc
   refine zA fun K hK => zB ?_
   refine zF (zC rfl rfl) ?_
   refine zF (zD rfl rfl) ?_
   refine zE (hK _ ?_); clear hK K; simp only [nA, ↓reduceIte]
   skip
   refine zO ?_; (try simp only [zI, zJ, Nat.reduceEqDiff, ↓reduceIte]); rw [if_pos (by simpa using hc3)] at hR; rw [← hR]; exact zS rfl (.tmp (bl rfl) rfl rfl .nil)
  (try simp only [z7] at hc); have hc3 := hc; have hv0 : valC c = 0 := (by simpa using hc3); have hv := val_inv hv0; have hco := co_parts hv.1; have hfr := fl_range hco.1; rw [if_neg (by simp [hv0])] at hR
  refine zM ?_
  refine hK _ ?_; clear hK K
  refine zA fun K hK => ?_
  refine zA fun K hK => ?_
  refine AW.quiet mix (by kernel_rfl) ?_
  refine zQ (zC rfl rfl) ?_
  refine zQ (op_gtr rfl rfl rfl) ?_
  refine zQ (zC rfl rfl) ?_
  refine' yK [_, _, _, _, _, _, _, _, _] [31,32,33,34,35,36,37,38,39] rfl rfl rfl rfl rfl rfl rfl rfl rfl rfl rfl rfl (fun hb => ?_) ?_; rotate_left
  ·
   (try simp only [z7] at hb)
   refine zQ (zH rfl rfl rfl fl33_0 (by exact sz3) (by decide) rfl) ?_
   refine aqR (zG rfl rfl rfl rfl ag3 rfl rfl) ?_
   refine zQ (zC rfl rfl) ?_
   refine zQ (zC rfl rfl) ?_
   refine zQ (op_subi rfl rfl rfl (by omega)) ?_
   refine zQ (zW (i - 1) rfl (.inl rfl) rfl Tryz.underlying42 (by omega) (yF (by omega)) (by exact yH) (bl rfl)) ?_
   refine zQ (yM rfl rfl fl33_0 (by exact sz3) (by decide) (bl rfl) rfl) ?_
   refine aqR (yA rfl rfl ag3) ?_
   refine zQ (op_leq rfl rfl rfl) ?_
   (refine yL rfl rfl rfl ?_; repeat (first | exact fun _ _ => rfl | refine zU rfl ?_))
  simp only [nA, ↓reduceIte]
  refine yN (hK _ ?_); clear hK K
  refine zL rfl rfl rfl (fun hc => ?_) (fun hc => ?_)
  ·
   (try simp only [z7] at hc); have hc4 := hc
   refine zA fun K hK => zB ?_
   refine zF (zD rfl rfl) ?_
   refine zE (hK _ ?_); clear hK K; try simp only [nA, Nat.reduceBEq, Nat.reduceEqDiff, ↓reduceIte, Nat.reduceAdd, Nat.reduceSub]
   skip
   refine zO ?_; (try simp only [zI, zJ, Nat.reduceEqDiff, ↓reduceIte]); rw [if_pos (by rw [prevBad_eq]; simpa using hc)] at hR; rw [← hR]; exact zS rfl (.tmp (bl rfl) rfl rfl .nil)
  (try simp only [z7] at hc); have hc4 := hc; rw [if_neg (by rw [prevBad_eq]; simp only [Bool.and_eq_true, decide_eq_true_eq]; omega)] at hR
  refine zM ?_
  refine hK _ ?_; clear hK K
  refine zA fun K hK => ?_
  refine zA fun K hK => zB ?_
  refine zF (zH rfl rfl rfl fl33_1 (by exact sz25) (by decide) rfl) ?_
  refine awR (zK rfl rfl rfl rfl ag25 sz25 (bl rfl) rfl) ?_
  refine zF (zH rfl rfl rfl fl33_5 (by exact sz3) (by decide) rfl) ?_
  refine awR (zG rfl rfl rfl rfl ag3 rfl rfl) ?_
  refine zF (op_build2 (xs := [_, _, _, _, _]) rfl pl99 ze99 [(0, [_, _, _, _]), (1, [_])] rfl rfl rfl) ?_
  refine yD (op_alloc rfl ze99 rfl) ?_; simp only [nA, Nat.reduceBEq, Nat.reduceEqDiff, ↓reduceIte]
  refine yD (z8 rfl rfl rfl rfl rfl rfl sz99 rfl (bl rfl) rfl) ?_; simp only [nA, Nat.reduceBEq, Nat.reduceEqDiff, ↓reduceIte]
  refine zE (hK _ ?_); clear hK K
  refine zA fun K hK => zB ?_
  refine zF (zH rfl rfl rfl fl33_5 (by exact sz3) (by decide) rfl) ?_
  refine awR (zG rfl rfl rfl rfl ag3 rfl rfl) ?_
  refine zF (op_neq rfl rfl rfl) ?_
  refine zE (hK _ ?_); clear hK K; try simp only [nA, Nat.reduceBEq, Nat.reduceEqDiff, ↓reduceIte, Nat.reduceAdd, Nat.reduceSub]
  refine zL rfl rfl rfl (fun hc => ?_) (fun hc => ?_)
  ·
   (try simp only [z7] at hc); have hc5 := hc
   refine zA fun K hK => ?_
   refine zA fun K hK => zB ?_
   refine zF (zC rfl rfl) ?_
   refine awR (zK rfl rfl rfl rfl ag99 sz99 (bl rfl) rfl) ?_
   refine awR (op_lookup (b := decide (spotOf c ∈ sp.map spotOf)) (ks := sp.map spV) (xs := [.string c.flight.carrier, .int .i64 c.flight.number, .string c.flight.suffix, .int .i64 c.flight.day, .int .i64 c.position]) rfl rfl rfl rfl Tryz.underlying96 Tryz.underlying4 zf4 (key99 hfr.1 hfr.2.1 hfr.2.2.1 hfr.2.2.2 (wf64 (by omega))) spV_mem) ?_; simp only [nA, Nat.reduceEqDiff, ↓reduceIte]
   refine zE (hK _ ?_); clear hK K
   refine zL rfl rfl rfl (fun hc => ?_) (fun hc => ?_)
   ·
    (try simp only [z7] at hc); have hc6 := hc
    refine zA fun K hK => zB ?_
    refine zF (zD rfl rfl) ?_
    refine zE (hK _ ?_); clear hK K; try simp only [nA, Nat.reduceBEq, Nat.reduceEqDiff, ↓reduceIte, Nat.reduceAdd, Nat.reduceSub]
    skip
    refine zO ?_; (try simp only [zI, zJ, Nat.reduceEqDiff, ↓reduceIte]); rw [if_pos ⟨hc5, by simpa using hc⟩] at hR; rw [← hR]; exact zS rfl (.tmp (bl rfl) rfl rfl .nil)
   (try simp only [z7] at hc); have hc6 := hc; rw [if_neg (fun h => absurd h.2 (by simpa using hc6)), if_pos hc5] at hR
   refine zM ?_
   refine hK _ ?_; clear hK K
   refine zB ?_
   refine zF (zC rfl rfl) ?_
   refine awR (zK rfl rfl rfl rfl ag99 sz99 (bl rfl) rfl) ?_
   refine yD (op_mapUpdate (ks := sp.map spV) (xs := [.string c.flight.carrier, .int .i64 c.flight.number, .string c.flight.suffix, .int .i64 c.flight.day, .int .i64 c.position]) rfl rfl rfl rfl rfl Tryz.underlying96 Tryz.underlying4 (key99 hfr.1 hfr.2.1 hfr.2.2.1 hfr.2.2.2 (wf64 (by omega))) (by simp [maxLen]; omega)) ?_; simp only [nA, Nat.reduceEqDiff, ↓reduceIte]
   refine zE (hK _ ?_); clear hK K
   refine zA fun K hK => zB ?_
   refine zF (zH rfl rfl rfl fl33_7 (by exact sz31) (by decide) rfl) ?_
   refine awR (zG rfl rfl rfl rfl ag31 rfl rfl) ?_
   refine zF (zX rfl rfl Tryz.underlying31 (by exact .inr (.inl ⟨_, rfl, rfl⟩))) ?_
   refine zF (zC rfl rfl) ?_
   refine zE (hK _ ?_); clear hK K; try simp only [nA, Nat.reduceBEq, Nat.reduceEqDiff, ↓reduceIte, Nat.reduceAdd, Nat.reduceSub]
   refine zN ?_
   refine yC (fun (q : Nat × List Plate × Nat) => [(0, .ro (xs.map Container.av)), (3, .mp 0 1), (4, .mp 1 2), (16, .ro (xs.map Container.av)), (17, .v (.int .i64 (xs.length : Nat))), (18, .v (.int .i64 (i : Nat))), (55, .ro (c.pieces.map Piece.av)), (56, .v (.int .i64 (c.pieces.length : Nat))), (57, .v (.int .i64 (q.1 : Nat)))]) (fun q => ⟨[(1, .om 96 (((c :: sp).map spV))), (2, .om 97 (q.2.1.map plV)), (e, .own 33 [c.av]), (e + 1, .own 99 [[.v (.string c.flight.carrier), .v (.int .i64 c.flight.number), .v (.string c.flight.suffix), .v (.int .i64 c.flight.day), .v (.int .i64 c.position)]])], q.2.2⟩) (fun q => q.1 ≤ c.pieces.length ∧ q.2.1.length ≤ 60 * i + q.1 ∧ chkP (c.pieces.drop q.1) q.2.1 = chkP c.pieces pl) (fun q => c.pieces.length - q.1) (0, pl, _) ⟨by simp, by simp; omega, rfl⟩ ⟨rfl, rfl, rfl, rfl, rfl, rfl, rfl, rfl, rfl, trivial⟩ rfl ?_; rintro ⟨j, pl2, e2⟩ ρ hJ; simp only at hJ; simp only [updL]; try simp only [nA, Nat.reduceBEq, Nat.reduceEqDiff, ↓reduceIte, Nat.reduceAdd, Nat.reduceSub]
   refine zA fun K hK => zB ?_
   refine zF (yP rfl rfl rfl) ?_
   refine zE (hK _ ?_); clear hK K; try simp only [nA, Nat.reduceBEq, Nat.reduceEqDiff, ↓reduceIte, Nat.reduceAdd, Nat.reduceSub]
   refine zA fun K hK => ?_
   refine zL rfl rfl rfl (fun hc => ?_) (fun hc => ?_)
   ·
    (try simp only [z7] at hc); have hc7 := hc; have hjl : j < c.pieces.length := (by omega); obtain ⟨p, hpj⟩ : ∃ p, c.pieces[j]? = some p := ⟨c.pieces[j], List.getElem?_eq_getElem hjl⟩; have hP := hJ.2.2; rw [drop_cons hpj, chkP_cons] at hP; have hpi := piB_inv (hv.2.2.1 p (List.mem_of_getElem? hpj)); have hpr := pl_range hpi.1
    refine zM ?_
    refine hK _ ?_; clear hK K
    refine zA fun K hK => zN ?_
    refine zA fun K hK => zB ?_
    refine zF (zW j rfl (.inl rfl) rfl Tryz.underlying31 rfl (get_of hpj) (by exact yR) (bl rfl)) ?_
    refine awR (zY rfl rfl ag35 yR (bl rfl) (by decide) rfl) ?_
    refine yD (op_alloc rfl ze35 rfl) ?_; simp only [nA, Nat.reduceBEq, Nat.reduceEqDiff, ↓reduceIte]
    refine yD (z8 rfl rfl rfl rfl rfl rfl yR rfl (bl rfl) rfl) ?_; simp only [nA, Nat.reduceBEq, Nat.reduceEqDiff, ↓reduceIte]
    refine zE (hK _ ?_); clear hK K
    refine zA fun K hK => ?_
    refine zA fun K hK => zB ?_
    refine zF (zC rfl rfl) ?_
    refine zF (zH rfl rfl rfl fl35_0 (by exact sz23) (by decide) rfl) ?_
    refine awR (zK rfl rfl rfl rfl ag23 sz23 (bl rfl) rfl) ?_
    refine awR (op_lookup (b := decide (p.plate ∈ pl2)) (ks := pl2.map plV) (xs := [.int .i64 p.plate.lead, .int .i64 p.plate.airline, .int .i64 p.plate.serial]) rfl rfl rfl rfl Tryz.underlying97 Tryz.underlying4 zf4 (key23 hpr.1 hpr.2.1 hpr.2.2) plV_mem) ?_; simp only [nA, ↓reduceIte]
    refine zE (hK _ ?_); clear hK K
    refine zL rfl rfl rfl (fun hc => ?_) (fun hc => ?_)
    ·
     (try simp only [z7] at hc); have hc8 := hc
     refine zA fun K hK => zB ?_
     refine zF (zD rfl rfl) ?_
     refine zE (hK _ ?_); clear hK K; try simp only [nA, Nat.reduceBEq, Nat.reduceEqDiff, ↓reduceIte, Nat.reduceAdd, Nat.reduceSub]
     skip
     refine zO ?_; (try simp only [zI, zJ, Nat.reduceEqDiff, ↓reduceIte]); rw [if_pos (by simpa using hc)] at hP; rw [← hP] at hR; rw [← hR]; exact zS rfl (.tmp (bl rfl) rfl rfl .nil)
    (try simp only [z7] at hc); have hc8 := hc; rw [if_neg (by simpa using hc8)] at hP
    refine zM ?_
    refine hK _ ?_; clear hK K
    refine zB ?_
    refine zF (zC rfl rfl) ?_
    refine zF (zH rfl rfl rfl fl35_0 (by exact sz23) (by decide) rfl) ?_
    refine awR (zK rfl rfl rfl rfl ag23 sz23 (bl rfl) rfl) ?_
    refine yD (op_mapUpdate (ks := pl2.map plV) (xs := [.int .i64 p.plate.lead, .int .i64 p.plate.airline, .int .i64 p.plate.serial]) rfl rfl rfl rfl rfl Tryz.underlying97 Tryz.underlying4 (key23 hpr.1 hpr.2.1 hpr.2.2) (by simp [maxLen]; omega)) ?_; simp only [nA, ↓reduceIte]
    refine zE ?_
    (try simp only [zI, zJ, Nat.reduceEqDiff, ↓reduceIte])
    refine hK _ ?_; clear hK K
    refine zB ?_
    refine zF (zR rfl rfl rfl (by omega)) ?_
    refine zF (zC rfl rfl) ?_
    refine AWL.gh (Gh.drop 4) ?_; simp only [nA]
    refine zE ?_
    refine ⟨(j + 1, p.plate :: pl2, _), ⟨by dsimp only; omega, by simp; omega, hP⟩, by dsimp only; omega, ⟨rfl, rfl, rfl, rfl, rfl, rfl, rfl, rfl, rfl, trivial⟩, (by rfl), (by rfl)⟩
   (try simp only [z7] at hc); have hc7 := hc; obtain rfl : j = c.pieces.length := (by omega); have hP := hJ.2.2; rw [List.drop_length, chkP_nil] at hP; rw [← hP] at hR; simp only at hR
   refine yE ?_; try simp only [zI, zJ, Nat.reduceEqDiff, ↓reduceIte]
   clear hK K
   (try simp only [zI, zJ, Nat.reduceEqDiff, ↓reduceIte])
   refine hK _ ?_; clear hK K
   refine zB ?_
   refine zF (zR rfl rfl rfl (by omega)) ?_
   refine zF (zC rfl rfl) ?_
   refine AWL.gh (Gh.drop 2) ?_; simp only [nA]
   refine zE ?_
   refine ⟨(i + 1, c :: sp, pl2, _), ⟨by dsimp only; omega, by simp; omega, by dsimp only; omega, by dsimp only; rw [prevN_succ hci]; exact hR⟩, by dsimp only; omega, ⟨rfl, rfl, rfl, rfl, rfl, rfl, trivial⟩, (by rfl), (by rfl)⟩
  (try simp only [z7] at hc); have hc5 := hc; rw [if_neg (fun h => h.1 (by simpa using hc5)), if_neg (by simpa using hc5)] at hR
  refine zM ?_
  refine hK _ ?_; clear hK K
  refine zA fun K hK => zB ?_
  refine zF (zH rfl rfl rfl fl33_7 (by exact sz31) (by decide) rfl) ?_
  refine awR (zG rfl rfl rfl rfl ag31 rfl rfl) ?_
  refine zF (zX rfl rfl Tryz.underlying31 (by exact .inr (.inl ⟨_, rfl, rfl⟩))) ?_
  refine zF (zC rfl rfl) ?_
  refine zE (hK _ ?_); clear hK K; try simp only [nA, Nat.reduceBEq, Nat.reduceEqDiff, ↓reduceIte, Nat.reduceAdd, Nat.reduceSub]
  refine zN ?_
  refine yC (fun (q : Nat × List Plate × Nat) => [(0, .ro (xs.map Container.av)), (3, .mp 0 1), (4, .mp 1 2), (16, .ro (xs.map Container.av)), (17, .v (.int .i64 (xs.length : Nat))), (18, .v (.int .i64 (i : Nat))), (55, .ro (c.pieces.map Piece.av)), (56, .v (.int .i64 (c.pieces.length : Nat))), (57, .v (.int .i64 (q.1 : Nat)))]) (fun q => ⟨[(1, .om 96 (sp.map spV)), (2, .om 97 (q.2.1.map plV)), (e, .own 33 [c.av]), (e + 1, .own 99 [[.v (.string c.flight.carrier), .v (.int .i64 c.flight.number), .v (.string c.flight.suffix), .v (.int .i64 c.flight.day), .v (.int .i64 c.position)]])], q.2.2⟩) (fun q => q.1 ≤ c.pieces.length ∧ q.2.1.length ≤ 60 * i + q.1 ∧ chkP (c.pieces.drop q.1) q.2.1 = chkP c.pieces pl) (fun q => c.pieces.length - q.1) (0, pl, _) ⟨by simp, by simp; omega, rfl⟩ ⟨rfl, rfl, rfl, rfl, rfl, rfl, rfl, rfl, rfl, trivial⟩ rfl ?_; rintro ⟨j, pl2, e2⟩ ρ hJ; simp only at hJ; simp only [updL]
  refine zA fun K hK => zB ?_
  refine zF (yP rfl rfl rfl) ?_
  refine zE (hK _ ?_); clear hK K; try simp only [nA, Nat.reduceBEq, Nat.reduceEqDiff, ↓reduceIte, Nat.reduceAdd, Nat.reduceSub]
  refine zA fun K hK => ?_
  refine zL rfl rfl rfl (fun hc => ?_) (fun hc => ?_)
  ·
   (try simp only [z7] at hc); have hc9 := hc; have hjl : j < c.pieces.length := (by omega); obtain ⟨p, hpj⟩ : ∃ p, c.pieces[j]? = some p := ⟨c.pieces[j], List.getElem?_eq_getElem hjl⟩; have hP := hJ.2.2; rw [drop_cons hpj, chkP_cons] at hP; have hpi := piB_inv (hv.2.2.1 p (List.mem_of_getElem? hpj)); have hpr := pl_range hpi.1
   refine zM ?_
   refine hK _ ?_; clear hK K
   refine zA fun K hK => zN ?_
   refine zA fun K hK => zB ?_
   refine zF (zW j rfl (.inl rfl) rfl Tryz.underlying31 rfl (get_of hpj) (by exact yR) (bl rfl)) ?_
   refine awR (zY rfl rfl ag35 yR (bl rfl) (by decide) rfl) ?_
   refine yD (op_alloc rfl ze35 rfl) ?_; simp only [nA, Nat.reduceBEq, Nat.reduceEqDiff, ↓reduceIte]
   refine yD (z8 rfl rfl rfl rfl rfl rfl yR rfl (bl rfl) rfl) ?_; simp only [nA, Nat.reduceBEq, Nat.reduceEqDiff, ↓reduceIte]
   refine zE (hK _ ?_); clear hK K
   refine zA fun K hK => ?_
   refine zA fun K hK => zB ?_
   refine zF (zC rfl rfl) ?_
   refine zF (zH rfl rfl rfl fl35_0 (by exact sz23) (by decide) rfl) ?_
   refine awR (zK rfl rfl rfl rfl ag23 sz23 (bl rfl) rfl) ?_
   refine awR (op_lookup (b := decide (p.plate ∈ pl2)) (ks := pl2.map plV) (xs := [.int .i64 p.plate.lead, .int .i64 p.plate.airline, .int .i64 p.plate.serial]) rfl rfl rfl rfl Tryz.underlying97 Tryz.underlying4 zf4 (key23 hpr.1 hpr.2.1 hpr.2.2) plV_mem) ?_; simp only [nA, ↓reduceIte]
   refine zE (hK _ ?_); clear hK K
   refine zL rfl rfl rfl (fun hc => ?_) (fun hc => ?_)
   ·
    (try simp only [z7] at hc); have hc10 := hc
    refine zA fun K hK => zB ?_
    refine zF (zD rfl rfl) ?_
    refine zE (hK _ ?_); clear hK K; try simp only [nA, Nat.reduceBEq, Nat.reduceEqDiff, ↓reduceIte, Nat.reduceAdd, Nat.reduceSub]
    skip
    refine zO ?_; (try simp only [zI, zJ, Nat.reduceEqDiff, ↓reduceIte]); rw [if_pos (by simpa using hc)] at hP; rw [← hP] at hR; rw [← hR]; exact zS rfl (.tmp (bl rfl) rfl rfl .nil)
   (try simp only [z7] at hc); have hc10 := hc; rw [if_neg (by simpa using hc10)] at hP
   refine zM ?_
   refine hK _ ?_; clear hK K
   refine zB ?_
   refine zF (zC rfl rfl) ?_
   refine zF (zH rfl rfl rfl fl35_0 (by exact sz23) (by decide) rfl) ?_
   refine awR (zK rfl rfl rfl rfl ag23 sz23 (bl rfl) rfl) ?_
   refine yD (op_mapUpdate (ks := pl2.map plV) (xs := [.int .i64 p.plate.lead, .int .i64 p.plate.airline, .int .i64 p.plate.serial]) rfl rfl rfl rfl rfl Tryz.underlying97 Tryz.underlying4 (key23 hpr.1 hpr.2.1 hpr.2.2) (by simp [maxLen]; omega)) ?_; simp only [nA, ↓reduceIte]
   refine zE ?_
   (try simp only [zI, zJ, Nat.reduceEqDiff, ↓reduceIte])
   refine hK _ ?_; clear hK K
   refine zB ?_
   refine zF (zR rfl rfl rfl (by omega)) ?_
   refine zF (zC rfl rfl) ?_
   refine AWL.gh (Gh.drop 4) ?_; simp only [nA]
   refine zE ?_
   refine ⟨(j + 1, p.plate :: pl2, _), ⟨by dsimp only; omega, by simp; omega, hP⟩, by dsimp only; omega, ⟨rfl, rfl, rfl, rfl, rfl, rfl, rfl, rfl, rfl, trivial⟩, (by rfl), (by rfl)⟩
  (try simp only [z7] at hc); have hc9 := hc; obtain rfl : j = c.pieces.length := (by omega); have hP := hJ.2.2; rw [List.drop_length, chkP_nil] at hP; rw [← hP] at hR; simp only at hR
  refine yE ?_; try simp only [zI, zJ, Nat.reduceEqDiff, ↓reduceIte]
  clear hK K
  (try simp only [zI, zJ, Nat.reduceEqDiff, ↓reduceIte])
  refine hK _ ?_; clear hK K
  refine zB ?_
  refine zF (zR rfl rfl rfl (by omega)) ?_
  refine zF (zC rfl rfl) ?_
  refine AWL.gh (Gh.drop 2) ?_; simp only [nA]
  refine zE ?_
  refine ⟨(i + 1, sp, pl2, _), ⟨by dsimp only; omega, by dsimp only; omega, by dsimp only; omega, by dsimp only; rw [prevN_succ hci]; exact hR⟩, by dsimp only; omega, ⟨rfl, rfl, rfl, rfl, rfl, rfl, trivial⟩, (by rfl), (by rfl)⟩
 (try simp only [z7] at hc); have hc2 := hc; obtain rfl : i = xs.length := (by omega); have hR := hI.2.2.2; rw [List.drop_length] at hR; unfold chk at hR
 refine yE ?_; try simp only [zI, zJ, Nat.reduceEqDiff, ↓reduceIte]
 clear hK K
 refine hK _ ?_; clear hK K
 refine zA fun K hK => zB ?_
 refine zF (zD rfl rfl) ?_
 refine zE (hK _ ?_); clear hK K; try simp only [nA, Nat.reduceBEq, Nat.reduceEqDiff, ↓reduceIte, Nat.reduceAdd, Nat.reduceSub]
 skip
 refine zO ?_; (try simp only [zI, zJ, Nat.reduceEqDiff, ↓reduceIte]); rw [← hR]; exact zS rfl (.tmp (bl rfl) rfl rfl .nil)
def findL (xs : List Container) (p : Plate) : Int × Bool := match xs.find? fun c => hasB c.pieces p with
 | some c => (c.number, true)
 | none => (0, false)
theorem find_yes {xs : List Container} {p : Plate} {i : Nat} {c : Container} (hc : xs[i]? = some c) (h0 : ∀ k (h : k < xs.length), k < i → hasB xs[k].pieces p = false) (h1 : hasB c.pieces p = true) : findL xs p = (c.number, true) := by
 unfold findL
 obtain ⟨hi, rfl⟩ := List.getElem?_eq_some_iff.1 hc
 have e : xs = xs.take i ++ xs[i] :: xs.drop (i + 1) := by rw [← List.drop_eq_getElem_cons hi, List.take_append_drop]
 have : xs.find? (fun c => hasB c.pieces p) = some xs[i] := by
   conv => lhs; rw [e]
   rw [List.find?_append, List.find?_eq_none.2 (fun x hx => ?_), List.find?_cons_of_pos (by simpa using h1)]
   · rfl
   obtain ⟨k, hk, rfl⟩ := List.getElem_of_mem hx
   simp at hk
   have := h0 k (by omega) (by omega)
   simpa using this
 rw [this]
theorem find_none {xs : List Container} {p : Plate} (h0 : ∀ k (h : k < xs.length), hasB xs[k].pieces p = false) : findL xs p = (0, false) := by
 unfold findL
 rw [List.find?_eq_none.2 (fun x hx => ?_)]
 obtain ⟨k, hk, rfl⟩ := List.getElem_of_mem hx
 simpa using h0 k hk
theorem C42 {xs : List Container} {p : Plate} (hx : xs.length ≤ 1000000) (hb : ∀ c ∈ xs, c.pieces.length ≤ 1000000000) : Fn Tryz.prog 42 [] [.ro (xs.map Container.av), .agg p.av] [.v (.int .i64 (findL xs p).1), .v (.bool (findL xs p).2)] [] := by
 refine Spec.body Tryz.func42 rfl Tryz.ntmps42 (by simp) rfl ?_; intro S0 own0 v0 w0
 refine zA fun K hK => zB ?_
 refine yD (yO rfl rfl rfl sz23 rfl) ?_; simp only [nA, Nat.reduceBEq, Nat.reduceEqDiff, ↓reduceIte]
 refine zF (zD rfl rfl) ?_
 refine zF (zD rfl rfl) ?_
 refine zE (hK _ ?_); clear hK K; try simp only [nA, Nat.reduceBEq, Nat.reduceEqDiff, ↓reduceIte, Nat.reduceAdd, Nat.reduceSub]
 refine zA fun K hK => ?_
 refine zA fun K hK => zB ?_
 refine zF (zC rfl rfl) ?_
 refine zF (zX rfl rfl Tryz.underlying42 (by exact .inr (.inl ⟨_, rfl, rfl⟩))) ?_
 refine zF (zC rfl rfl) ?_
 refine zE (hK _ ?_); clear hK K; simp only [nA, ↓reduceIte]
 refine zN ?_
 refine yC (fun (q : Nat × Nat) => [(3, .ptr 0 1 0 0), (8, .ro (xs.map Container.av)), (9, .v (.int .i64 (xs.length : Nat))), (10, .v (.int .i64 (q.1 : Nat)))]) (fun q => ⟨[(1, .own 23 [p.av])], q.2⟩) (fun q => q.1 ≤ xs.length ∧ ∀ k (h : k < xs.length), k < q.1 → hasB xs[k].pieces p = false) (fun q => xs.length - q.1) (0, 2) ⟨by simp, by simp⟩ ⟨rfl, rfl, rfl, rfl, trivial⟩ rfl ?_; rintro ⟨i, e⟩ ρ hI; simp only at hI; simp only [updL]
 refine zA fun K hK => zB ?_
 refine zF (yP rfl rfl rfl) ?_
 refine zE (hK _ ?_); clear hK K; try simp only [nA, Nat.reduceBEq, Nat.reduceEqDiff, ↓reduceIte, Nat.reduceAdd, Nat.reduceSub]
 refine zA fun K hK => ?_
 refine zL rfl rfl rfl (fun hc => ?_) (fun hc => ?_)
 ·
  (try simp only [z7] at hc); have hc1 := hc; have hlt : i < xs.length := (by simpa using hc1); obtain ⟨c, hci⟩ : ∃ c, xs[i]? = some c := ⟨xs[i], List.getElem?_eq_getElem hlt⟩; have hcl := hb c (List.mem_of_getElem? hci)
  refine zM ?_
  refine hK _ ?_; clear hK K
  refine zA fun K hK => zN ?_
  refine zA fun K hK => zB ?_
  refine zF (zW i rfl (.inl rfl) rfl Tryz.underlying42 rfl (get_of hci) (by exact yH) (bl rfl)) ?_
  refine awR (zY rfl rfl ag33 yH (bl rfl) (by decide) rfl) ?_
  refine yD (op_alloc rfl ze33 rfl) ?_; try simp only [nA, Nat.reduceBEq, Nat.reduceEqDiff, ↓reduceIte, Nat.reduceAdd, Nat.reduceSub]
  refine yD (z8 rfl rfl rfl rfl rfl rfl yH rfl (bl rfl) rfl) ?_; simp only [nA, Nat.reduceBEq, Nat.reduceEqDiff, ↓reduceIte]
  refine zE (hK _ ?_); clear hK K
  refine zA fun K hK => zB ?_
  refine awR (zK rfl rfl rfl rfl ag33 yH (bl rfl) rfl) ?_
  refine awR (zK rfl rfl rfl rfl ag23 sz23 (bl rfl) rfl) ?_
  refine yD (OpQ.j (zT (b := true) rfl en64 (C64 (c := c) (p := p) hcl) (RL.cons (by exact View.same rfl) (RL.cons (by exact View.same rfl) (RL.nil))) rfl)) ?_; try simp only [nA, Nat.reduceBEq, Nat.reduceEqDiff, ↓reduceIte, Nat.reduceAdd, Nat.reduceSub]
  refine zE (hK _ ?_); clear hK K
  refine zL rfl rfl rfl (fun hc => ?_) (fun hc => ?_)
  ·
   (try simp only [z7] at hc); have hc2 := hc
   refine zA fun K hK => zB ?_
   refine zF (zH rfl rfl rfl fl33_0 (by exact sz3) (by decide) rfl) ?_
   refine awR (zG rfl rfl rfl rfl ag3 rfl rfl) ?_
   refine zF (zD rfl rfl) ?_
   refine zF (zD rfl rfl) ?_
   refine zE (hK _ ?_); clear hK K; simp only [nA]
   skip
   refine zO ?_; (try simp only [zI, zJ, Nat.reduceEqDiff, ↓reduceIte]); rw [find_yes hci hI.2 hc2]; exact zS rfl (.tmp (bl rfl) rfl rfl (.tmp (bl rfl) rfl rfl .nil))
  (try simp only [z7] at hc); have hc2 := hc
  refine zM ?_
  (try simp only [zI, zJ, Nat.reduceEqDiff, ↓reduceIte])
  refine hK _ ?_; clear hK K
  refine zB ?_
  refine zF (zR rfl rfl rfl (by omega)) ?_
  refine zF (zC rfl rfl) ?_
  refine AWL.gh (Gh.drop 1) ?_; simp only [nA]
  refine zE ?_
  refine ⟨(i + 1, _), ⟨by dsimp only; omega, fun k h hk => by rcases Nat.lt_or_ge k i with h' | h'; exact hI.2 k h h'; (obtain rfl : k = i := by dsimp only at hk; omega); (rw [(List.getElem?_eq_some_iff.1 hci).2]; exact hc2)⟩, by dsimp only; omega, ⟨rfl, rfl, rfl, rfl, trivial⟩, (by rfl), (by rfl)⟩
 (try simp only [z7] at hc); have hc1 := hc
 refine yE ?_; try simp only [zI, zJ, Nat.reduceEqDiff, ↓reduceIte]
 clear hK K
 refine hK _ ?_; clear hK K
 refine zA fun K hK => zB ?_
 refine zF (zD rfl rfl) ?_
 refine zF (zD rfl rfl) ?_
 refine zE (hK _ ?_); clear hK K; try simp only [nA, Nat.reduceBEq, Nat.reduceEqDiff, ↓reduceIte, Nat.reduceAdd, Nat.reduceSub]
 skip
 refine zO ?_; (try simp only [zI, zJ, Nat.reduceEqDiff, ↓reduceIte]); rw [find_none (xs := xs) (p := p) (fun k h => hI.2 k h (by omega))]; exact zS rfl (.tmp (bl rfl) rfl rfl (.tmp (bl rfl) rfl rfl .nil))
end Go.Proofs.YtmdohphcolffmaaGreat
