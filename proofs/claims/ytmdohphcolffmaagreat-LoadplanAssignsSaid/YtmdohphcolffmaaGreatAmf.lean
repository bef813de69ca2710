import Derived.Test.YtmdohphcolffmaaGreatAme
import Derived.Shelf.SlSortFuncK.SWK
import Derived.Ground.GgsProg
import Derived.Shelf.GgSortFunc.Tiny
import Derived.Shelf.SlSortFuncK.WholeK
namespace Go.Proofs.YtmdohphcolffmaaGreat
set_option maxHeartbeats 8000000
open Go.RowKit
set_option linter.unusedSimpArgs false
set_option linter.unusedVariables false
set_option maxRecDepth 100000
theorem Fit.arm {l : List Container} (hf : Fit l) {i : Nat} (h : i < l.length) : -50 ≤ (l.getD i default).arm ∧ (l.getD i default).arm ≤ 50 := by
 rw [getD_c h]
 have := hf.w _ (List.getElem_mem h)
 exact ⟨this.2.2.1, this.2.2.2⟩
def fstA (l : List Container) (o : Option Nat) : AV := match o with | none => .v (.pointer none) | some j => .rop (l.getD j default).av
theorem any_snoc {l : List Container} {f : Flight} {i : Nat} (h : i < l.length) : anyF (l.take (i + 1)) f = (anyF (l.take i) f || flEq (l.getD i default).flight f) := by
 unfold anyF
 rw [List.take_add_one, List.any_append, List.getElem?_eq_getElem h, getD_c h]
 simp
theorem C43 {l : List Container} {f : Flight} {p : Piece} (hf : Fit l) (hp : piB p = true) : Fn Tryz.prog 43 [] [.ro (l.map Container.av), .agg f.av, .agg p.av] [.v (.int .i64 (atI (bestV l f p))), .v (.bool (anyF l f))] [] := by
 refine Spec.body Tryz.func43 rfl Tryz.ntmps43 (by simp) rfl ?_; intro S0 own0 v0 w0
 refine zA fun K hK => zB ?_
 refine yD (yO rfl rfl rfl sz25 rfl) ?_; simp only [nA, Nat.reduceBEq, Nat.reduceEqDiff, ↓reduceIte]
 refine yD (yO rfl rfl rfl yR rfl) ?_; simp only [nA, Nat.reduceBEq, Nat.reduceEqDiff, ↓reduceIte]
 refine zF (zD rfl rfl) ?_
 refine zF (zD rfl rfl) ?_
 refine zE (hK _ ?_); clear hK K; try simp only [nA, Nat.reduceBEq, Nat.reduceEqDiff, ↓reduceIte, Nat.reduceAdd, Nat.reduceSub]
 refine zA fun K hK => zB ?_
 refine zF (zC rfl rfl) ?_
 refine awR (zK rfl rfl rfl rfl ag25 sz25 (bl rfl) rfl) ?_
 refine yD (OpQ.j (zT (b := true) rfl en38 (C38 (l := l) (f := f) hf) (RL.cons (by exact View.same rfl) (RL.cons (by exact View.same rfl) (RL.nil))) rfl)) ?_; simp only [nA, ↓reduceIte]
 refine zF (zD rfl rfl) ?_
 refine zE (hK _ ?_); clear hK K; simp only [nA]
 refine zA fun K hK => zB ?_
 refine zF (zD rfl rfl) ?_
 refine zE (hK _ ?_); clear hK K; try simp only [nA, Nat.reduceBEq, Nat.reduceEqDiff, ↓reduceIte, Nat.reduceAdd, Nat.reduceSub]
 refine zA fun K hK => zB ?_
 refine zF (zD rfl rfl) ?_
 refine zF (zD rfl rfl) ?_
 refine zE (hK _ ?_); clear hK K; try simp only [nA, Nat.reduceBEq, Nat.reduceEqDiff, ↓reduceIte, Nat.reduceAdd, Nat.reduceSub]
 refine zA fun K hK => ?_
 refine zA fun K hK => zB ?_
 refine zF (zC rfl rfl) ?_
 refine zF (zX (n := l.length) rfl rfl Tryz.underlying42 (.inr (.inl ⟨_, rfl, by simp⟩))) ?_
 refine zF (zC rfl rfl) ?_
 refine zE (hK _ ?_); clear hK K; simp only [nA, ↓reduceIte]
 refine zN ?_
 refine yC (fun (i : Nat) => [(4, .ptr 0 1 0 0), (5, .ptr 1 2 0 0), (0, .ro (l.map Container.av)), (8, .v (.int .i64 (mom l f))), (9, fstA l (bestI l f p i)), (10, .v (.int .i64 (atI (bestI l f p i)))), (11, .v (.bool (anyF (l.take i) f))), (16, .ro (l.map Container.av)), (17, .v (.int .i64 (l.length : Nat))), (18, .v (.int .i64 (i : Nat)))]) (fun _ => ⟨[(1, .own 25 [f.av]), (2, .own 35 [p.av])], _⟩) (fun i => i ≤ l.length) (fun i => l.length - i) 0 (by simp) ⟨rfl, rfl, rfl, rfl, rfl, rfl, rfl, rfl, rfl, rfl, trivial⟩ rfl ?_; intro i ρ hi; simp only [updL]
 refine zA fun K hK => zB ?_
 refine zF (yP rfl rfl rfl) ?_
 refine zE (hK _ ?_); clear hK K; try simp only [nA, Nat.reduceBEq, Nat.reduceEqDiff, ↓reduceIte, Nat.reduceAdd, Nat.reduceSub]
 refine zA fun K hK => ?_
 refine zL rfl rfl rfl (fun hc => ?_) (fun hc => ?_)
 ·
  have hc1 := hc; have hlt : i < l.length := (by simpa using hc1); have hlen := hf.len; have hm := hf.mom f; have hpi := piB_inv hp; have hany := any_snoc (f := f) hlt
  refine zM ?_
  refine hK _ ?_; clear hK K
  refine zA fun K hK => zN ?_
  refine zA fun K hK => zB ?_
  refine zF (zC rfl rfl) ?_
  refine zF (zD rfl rfl) ?_
  refine zE (hK _ ?_); clear hK K; simp only [nA, ↓reduceIte]
  refine zA fun K hK => ?_
  refine zA fun K hK => ?_
  refine AW.quiet mix (by kernel_rfl) ?_
  refine zQ (zC rfl rfl) ?_
  refine zQ (zC rfl rfl) ?_
  refine zQ (zW i rfl (.inl rfl) rfl Tryz.underlying42 rfl (yF hlt) (by exact yH) (bl rfl)) ?_
  refine zQ (yM rfl rfl fl33_1 (by exact sz25) (by decide) (bl rfl) rfl) ?_
  refine aqR (zY rfl rfl ag25 sz25 (bl rfl) (by decide) rfl) ?_
  refine aqR (zK rfl rfl rfl rfl ag25 sz25 (bl rfl) rfl) ?_
  refine zQ (op_neq25 (p := ((l.getD i default)).flight) (q := f) rfl rfl rfl) ?_; simp only [nA, ↓reduceIte]
  refine yN (hK _ ?_); clear hK K
  refine zL rfl rfl rfl (fun hc => ?_) (fun hc => ?_)
  ·
   have hc2 := hc; have hfl : flEq ((l.getD i default)).flight f = false := (by simpa using hc2); have hb : bestI l f p (i + 1) = bestI l f p i := (by rw [bestI, if_neg (by rw [hfl]; simp)]); rw [hfl, Bool.or_false] at hany
   refine yE ?_; try simp only [zI, zJ, Nat.reduceEqDiff, ↓reduceIte]
   clear hK K
   refine hK _ ?_; clear hK K
   refine zB ?_
   refine zF (zR rfl rfl rfl (by omega)) ?_
   refine zF (zC rfl rfl) ?_
   skip
   refine zE ?_
   refine ⟨i + 1, by omega, by omega, ⟨rfl, rfl, rfl, rfl, congrArg (fstA l) hb.symm, congrArg (fun z => AV.v (.int .i64 (atI z))) hb.symm, congrArg (fun z => AV.v (.bool z)) hany.symm, rfl, rfl, rfl, trivial⟩, (by rfl), (by rfl)⟩
  have hc2 := hc; have hfl : flEq ((l.getD i default)).flight f = true := (by simpa using hc2); rw [hfl, Bool.or_true] at hany
  refine zM ?_
  refine hK _ ?_; clear hK K
  refine zA fun K hK => zB ?_
  refine zF (zD rfl rfl) ?_
  refine zE (hK _ ?_); clear hK K; try simp only [nA, Nat.reduceBEq, Nat.reduceEqDiff, ↓reduceIte, Nat.reduceAdd, Nat.reduceSub]
  refine zA fun K hK => ?_
  refine zA fun K hK => ?_
  refine AW.quiet mix (by kernel_rfl) ?_
  refine zQ (zC rfl rfl) ?_
  refine zQ (zC rfl rfl) ?_
  refine zQ (zW i rfl (.inl rfl) rfl Tryz.underlying42 rfl (yF hlt) (by exact yH) (bl rfl)) ?_
  refine aqR (zY rfl rfl ag33 yH (bl rfl) (by decide) rfl) ?_
  refine aqR (zK rfl rfl rfl rfl ag35 yR (bl rfl) rfl) ?_
  refine aqQ (zT (b := true) rfl en12 (C12 (c := (l.getD i default)) (p := p)) (RL.cons (by exact View.same rfl) (RL.cons (by exact View.same rfl) (RL.nil))) rfl) ?_; simp only [nA, ↓reduceIte]
  refine zQ (op_not rfl rfl rfl) ?_
  refine yN (hK _ ?_); clear hK K; try simp only [nA, Nat.reduceBEq, Nat.reduceEqDiff, ↓reduceIte, Nat.reduceAdd, Nat.reduceSub]
  refine zL rfl rfl rfl (fun hc => ?_) (fun hc => ?_)
  ·
   have hc3 := hc; have had : admB ((l.getD i default)) p = false := (by simpa using hc3); have hb : bestI l f p (i + 1) = bestI l f p i := (by rw [bestI, if_neg (by rw [hfl, had]; simp)])
   refine yE ?_; try simp only [zI, zJ, Nat.reduceEqDiff, ↓reduceIte]
   clear hK K
   refine hK _ ?_; clear hK K
   refine zB ?_
   refine zF (zR rfl rfl rfl (by omega)) ?_
   refine zF (zC rfl rfl) ?_
   skip
   refine zE ?_
   refine ⟨i + 1, by omega, by omega, ⟨rfl, rfl, rfl, rfl, congrArg (fstA l) hb.symm, congrArg (fun z => AV.v (.int .i64 (atI z))) hb.symm, congrArg (fun z => AV.v (.bool z)) hany.symm, rfl, rfl, rfl, trivial⟩, (by rfl), (by rfl)⟩
  have hc3 := hc; have had : admB ((l.getD i default)) p = true := (by simpa using hc3); refine zM ?_; refine hK _ ?_; clear hK K
  rcases (show bestI l f p i = none ∨ ∃ j, bestI l f p i = some j from by cases bestI l f p i <;> simp) with hbi | ⟨j, hbi⟩ <;> rw [hbi]
  · -- none
    refine zA fun K hK => ?_
    refine AW.quiet mix (by kernel_rfl) ?_
    refine zQ (zC rfl rfl) ?_
    refine zQ (op_pnil rfl rfl Tryz.underlying101) ?_
    refine zQ (zC rfl rfl) ?_
    refine aqOr' (b2 := false) [_, _, _, _, _, _, _, _, _, _, _, _, _, _, _, _, _, _, _, _, _, _] [38,39,40,41,42,43,44,45,46,47,48,49,50,51,52,53,54,55,56,57,58,59] rfl rfl rfl rfl rfl rfl rfl rfl rfl rfl rfl rfl (fun hb => by cases hb) ?_
    simp only [nA, ↓reduceIte]
    refine yN (hK _ ?_); clear hK K
    refine zL rfl rfl rfl (fun hc => ?_) (fun hc => ?_)
    · have hb : bestI l f p (i + 1) = some i := (by rw [bestI, if_pos (by rw [hfl, had]; rfl), hbi])
      refine zB ?_
      refine zF (zC rfl rfl) ?_
      refine zF (zC rfl rfl) ?_
      refine zF (zW i rfl (.inl rfl) rfl Tryz.underlying42 rfl (yF hlt) (by exact yH) (bl rfl)) ?_
      refine zF (zC rfl rfl) ?_
      refine zF (zD rfl rfl) ?_
      refine zF (zD rfl rfl) ?_
      refine zE ?_
      (try simp only [zI, zJ, Nat.reduceEqDiff, ↓reduceIte])
      refine hK _ ?_; clear hK K; simp only [nA, Nat.reduceEqDiff, ↓reduceIte]
      refine zB ?_; refine zF (zR rfl rfl rfl (by omega)) ?_; (try simp only [nA, Nat.reduceBEq, Nat.reduceEqDiff, ↓reduceIte, Nat.reduceAdd, Nat.reduceSub]); refine zF (zC rfl rfl) ?_; (simp only [nA]); refine zE ?_
      refine ⟨i + 1, by omega, by omega, ⟨rfl, rfl, rfl, rfl, congrArg (fstA l) hb.symm, congrArg (fun z => AV.v (.int .i64 (atI z))) hb.symm, congrArg (fun z => AV.v (.bool z)) hany.symm, rfl, rfl, rfl, trivial⟩, (by rfl), (by rfl)⟩
    simp at hc
  -- some j
  have hjl : j < l.length := (by have := bestI_lt hbi; omega); have ha1 := hf.arm hlt; have ha2 := hf.arm hjl; have hw1 := mul_bd (a := p.weight) (b := ((l.getD i default)).arm) (m := 999) (n := 50) (by omega) (by omega) ha1.1 ha1.2 (by decide); have hw2 := mul_bd (a := p.weight) (b := (l.getD j default).arm) (m := 999) (n := 50) (by omega) (by omega) ha2.1 ha2.2 (by decide)
  refine zA fun K hK => ?_
  refine AW.quiet mix (by kernel_rfl) ?_
  refine zQ (zC rfl rfl) ?_
  refine zQ (op_pnot rfl rfl Tryz.underlying101) ?_
  refine zQ (zC rfl rfl) ?_
  refine' aqOr' [_, _, _, _, _, _, _, _, _, _, _, _, _, _, _, _, _, _, _, _, _, _] [38,39,40,41,42,43,44,45,46,47,48,49,50,51,52,53,54,55,56,57,58,59] rfl rfl rfl rfl rfl rfl rfl rfl rfl rfl rfl rfl (fun hb => ?_) ?_; rotate_left
  ·
   (try simp only [z7] at hb)
   refine zQ (zC rfl rfl) ?_
   refine zQ (zH rfl rfl rfl fl35_1 (by exact sz3) (by decide) rfl) ?_
   refine aqR (zG rfl rfl rfl rfl ag3 rfl rfl) ?_
   refine zQ (zC rfl rfl) ?_
   refine zQ (zC rfl rfl) ?_
   refine zQ (zW i rfl (.inl rfl) rfl Tryz.underlying42 rfl (yF hlt) (by exact yH) (bl rfl)) ?_
   refine zQ (yM rfl rfl fl33_6 (by exact sz3) (by decide) (bl rfl) rfl) ?_
   refine aqR (yA rfl rfl ag3) ?_
   refine zQ (op_muli rfl rfl rfl (by omega)) ?_
   refine zQ (zR rfl rfl rfl (by omega)) ?_
   refine aqQ (zT (b := true) rfl en65 (C65 (n := mom l f + p.weight * ((l.getD i default)).arm) (by omega)) (RL.cons (by exact View.same rfl) (RL.nil)) rfl) ?_; simp only [nA, ↓reduceIte]
   refine zQ (zC rfl rfl) ?_
   refine zQ (zH rfl rfl rfl fl35_1 (by exact sz3) (by decide) rfl) ?_
   refine aqR (zG rfl rfl rfl rfl ag3 rfl rfl) ?_
   refine zQ (zC rfl rfl) ?_
   refine zQ (op_nil_ptr rfl rfl) ?_
   refine zQ (yM rfl rfl fl33_6 (by exact sz3) (by decide) (bl rfl) rfl) ?_
   refine aqR (yA rfl rfl ag3) ?_
   refine zQ (op_muli rfl rfl rfl (by omega)) ?_
   refine zQ (zR rfl rfl rfl (by omega)) ?_
   refine aqQ (zT (b := true) rfl en65 (C65 (n := mom l f + p.weight * (l.getD j default).arm) (by omega)) (RL.cons (by exact View.same rfl) (RL.nil)) rfl) ?_; simp only [nA, ↓reduceIte]
   refine zQ (yP rfl rfl rfl) ?_
   (refine yL rfl rfl rfl ?_; repeat (first | exact fun _ _ => rfl | refine zU rfl ?_))
  simp only [nA, ↓reduceIte]
  refine yN (hK _ ?_); clear hK K
  refine zL rfl rfl rfl (fun hc => ?_) (fun hc => ?_)
  · have hb : bestI l f p (i + 1) = some i := (by rw [bestI, if_pos (by rw [hfl, had]; rfl), hbi]; exact if_pos (by simpa using hc))
    refine zB ?_
    refine zF (zC rfl rfl) ?_
    refine zF (zC rfl rfl) ?_
    refine zF (zW i rfl (.inl rfl) rfl Tryz.underlying42 rfl (yF hlt) (by exact yH) (bl rfl)) ?_
    refine zF (zC rfl rfl) ?_
    refine zF (zD rfl rfl) ?_
    refine zF (zD rfl rfl) ?_
    refine zE ?_
    (try simp only [zI, zJ, Nat.reduceEqDiff, ↓reduceIte])
    refine hK _ ?_; clear hK K; simp only [nA, Nat.reduceEqDiff, ↓reduceIte]
    refine zB ?_; refine zF (zR rfl rfl rfl (by omega)) ?_; (try simp only [nA, Nat.reduceBEq, Nat.reduceEqDiff, ↓reduceIte, Nat.reduceAdd, Nat.reduceSub]); refine zF (zC rfl rfl) ?_; (simp only [nA]); refine zE ?_
    refine ⟨i + 1, by omega, by omega, ⟨rfl, rfl, rfl, rfl, congrArg (fstA l) hb.symm, congrArg (fun z => AV.v (.int .i64 (atI z))) hb.symm, congrArg (fun z => AV.v (.bool z)) hany.symm, rfl, rfl, rfl, trivial⟩, (by rfl), (by rfl)⟩
  have hb : bestI l f p (i + 1) = some j := (by rw [bestI, if_pos (by rw [hfl, had]; rfl), hbi]; exact if_neg (by simpa using hc))
  refine zM ?_
  (try simp only [zI, zJ, Nat.reduceEqDiff, ↓reduceIte])
  refine hK _ ?_; clear hK K
  refine zB ?_; refine zF (zR rfl rfl rfl (by omega)) ?_; (try simp only [nA, Nat.reduceBEq, Nat.reduceEqDiff, ↓reduceIte, Nat.reduceAdd, Nat.reduceSub]); refine zF (zC rfl rfl) ?_; (simp only [nA]); refine zE ?_
  refine ⟨i + 1, by omega, by omega, ⟨rfl, rfl, rfl, rfl, congrArg (fstA l) hb.symm, congrArg (fun z => AV.v (.int .i64 (atI z))) hb.symm, congrArg (fun z => AV.v (.bool z)) hany.symm, rfl, rfl, rfl, trivial⟩, (by rfl), (by rfl)⟩
 have hc1 := hc; have hnl : ¬ i < l.length := (by simpa using hc1); have hil : i = l.length := (by omega)
 refine yE ?_; try simp only [zI, zJ, Nat.reduceEqDiff, ↓reduceIte]
 clear hK K
 refine hK _ ?_; clear hK K
 refine zA fun K hK => zB ?_
 refine zF (zC rfl rfl) ?_
 refine zF (zC rfl rfl) ?_
 refine zF (zD rfl rfl) ?_
 refine zF (zD rfl rfl) ?_
 refine zE (hK _ ?_); clear hK K; simp only [nA, ↓reduceIte]
 skip
 refine zO ?_; (try simp only [zI, zJ, Nat.reduceEqDiff, ↓reduceIte]); rw [show bestV l f p = bestI l f p i by rw [hil]; rfl, show anyF l f = anyF (l.take i) f by rw [List.take_of_length_le (by omega)]]; exact zS rfl (.tmp (bl rfl) rfl rfl (.tmp (bl rfl) rfl rfl .nil))
set_option maxRecDepth 100000
def listEq {α : Type} [Inhabited α] (eq : α → α → Bool) (a b : List α) : Bool := decide ((a.length : Int) = b.length) && (List.range a.length).all fun i => eq (a.getD i default) (b.getD i default)
theorem le_ne {α : Type} [Inhabited α] {eq : α → α → Bool} {a b : List α} (h : (!decide ((a.length : Int) = b.length)) = true) : listEq eq a b = false := by
 unfold listEq
 rw [show decide ((a.length : Int) = b.length) = false by simpa using h, Bool.false_and]
theorem le_no {α : Type} [Inhabited α] {eq : α → α → Bool} {a b : List α} {i : Nat} (hi : i < a.length) (h : (!eq (a.getD i default) (b.getD i default)) = true) : listEq eq a b = false := by
 unfold listEq
 rw [all_range_no hi (by simpa using h), Bool.and_false]
theorem le_yes {α : Type} [Inhabited α] {eq : α → α → Bool} {a b : List α} {i : Nat} (he : (!decide ((a.length : Int) = b.length)) = false) (hi : ¬ i < a.length) (h : ∀ k, k < i → eq (a.getD k default) (b.getD k default) = true) : listEq eq a b = true := by
 unfold listEq
 rw [all_range_yes hi h, Bool.and_true]
 simpa using he
theorem C27 {a b : List Piece} (h1 : a.length ≤ 1000000) : Fn Tryz.prog 27 [] [.ro (a.map Piece.av), .ro (b.map Piece.av)] [.v (.bool (listEq piEq a b))] [] := by
 refine Spec.body Tryz.func27 rfl Tryz.ntmps27 (by simp) rfl ?_; intro S0 own0 v0 w0
 refine zA fun K hK => zB ?_
 refine zF (zD rfl rfl) ?_
 refine zE (hK _ ?_); clear hK K; try simp only [nA, Nat.reduceBEq, Nat.reduceEqDiff, ↓reduceIte, Nat.reduceAdd, Nat.reduceSub]
 refine zA fun K hK => ?_
 refine zA fun K hK => zB ?_
 refine zF (zC rfl rfl) ?_
 refine zF (zX (n := a.length) rfl rfl Tryz.underlying31 (.inr (.inl ⟨_, rfl, by simp⟩))) ?_
 refine zF (zC rfl rfl) ?_
 refine zF (zX (n := b.length) rfl rfl Tryz.underlying31 (.inr (.inl ⟨_, rfl, by simp⟩))) ?_
 refine zF (op_neq rfl rfl rfl) ?_
 refine zE (hK _ ?_); clear hK K; simp only [nA, ↓reduceIte]
 refine zL rfl rfl rfl (fun hc => ?_) (fun hc => ?_)
 ·
  have hc1 := hc
  refine zA fun K hK => zB ?_
  refine zF (zD rfl rfl) ?_
  refine zE (hK _ ?_); clear hK K; try simp only [nA, Nat.reduceBEq, Nat.reduceEqDiff, ↓reduceIte, Nat.reduceAdd, Nat.reduceSub]
  skip
  refine zO ?_; (try simp only [zI, zJ, Nat.reduceEqDiff, ↓reduceIte]); rw [le_ne hc1]; exact zS rfl (.tmp (bl rfl) rfl rfl .nil)
 have hc1 := hc; have hle : a.length = b.length := (by have e : (a.length : Int) = b.length := (by simpa using hc1); omega)
 refine zM ?_
 refine hK _ ?_; clear hK K
 refine zA fun K hK => ?_
 refine zA fun K hK => zB ?_
 refine zF (zD rfl rfl) ?_
 refine zE (hK _ ?_); clear hK K; try simp only [nA, Nat.reduceBEq, Nat.reduceEqDiff, ↓reduceIte, Nat.reduceAdd, Nat.reduceSub]
 refine zN ?_
 refine yC (fun i => [(0, .ro (a.map Piece.av)), (1, .ro (b.map Piece.av)), (5, .v (.int .i64 (i : Nat)))]) (fun i => ⟨[], 1⟩) (fun i => i ≤ a.length ∧ ∀ k, k < i → piEq (a.getD k default) (b.getD k default) = true) (fun i => a.length - i) 0 (by simp) ⟨rfl, rfl, rfl, trivial⟩ rfl ?_; intro i ρ hi; simp only [updL]
 refine zA fun K hK => ?_
 refine zA fun K hK => zB ?_
 refine zF (zC rfl rfl) ?_
 refine zF (zC rfl rfl) ?_
 refine zF (zX (n := a.length) rfl rfl Tryz.underlying31 (.inr (.inl ⟨_, rfl, by simp⟩))) ?_
 refine zF (yP rfl rfl rfl) ?_
 refine zE (hK _ ?_); clear hK K; simp only [nA, ↓reduceIte]
 refine zL rfl rfl rfl (fun hc => ?_) (fun hc => ?_)
 ·
  have hc2 := hc; have hlt : i < a.length := (by simpa using hc2)
  refine zM ?_
  refine hK _ ?_; clear hK K
  refine zA fun K hK => zN ?_
  refine zA fun K hK => ?_
  refine AW.quiet mix (by kernel_rfl) ?_
  refine zQ (zC rfl rfl) ?_
  refine zQ (zC rfl rfl) ?_
  refine zQ (zW i rfl (.inl rfl) rfl Tryz.underlying31 rfl (yF (by omega)) (by exact yR) (bl rfl)) ?_
  refine aqR (zY rfl rfl ag35 yR (bl rfl) (by decide) rfl) ?_
  refine zQ (zC rfl rfl) ?_
  refine zQ (zC rfl rfl) ?_
  refine zQ (zW i rfl (.inl rfl) rfl Tryz.underlying31 rfl (yF (by omega)) (by exact yR) (bl rfl)) ?_
  refine aqR (zY rfl rfl ag35 yR (bl rfl) (by decide) rfl) ?_
  refine zQ (op_neq35 (p := a.getD i default) (q := b.getD i default) rfl rfl rfl) ?_; simp only [nA, ↓reduceIte]
  refine yN (hK _ ?_); clear hK K
  refine zL rfl rfl rfl (fun hc => ?_) (fun hc => ?_)
  ·
   have hc3 := hc
   refine zA fun K hK => zB ?_
   refine zF (zD rfl rfl) ?_
   refine zE (hK _ ?_); clear hK K; try simp only [nA, Nat.reduceBEq, Nat.reduceEqDiff, ↓reduceIte, Nat.reduceAdd, Nat.reduceSub]
   skip
   refine zO ?_; (try simp only [zI, zJ, Nat.reduceEqDiff, ↓reduceIte]); rw [le_no hlt hc3]; exact zS rfl (.tmp (bl rfl) rfl rfl .nil)
  have hc3 := hc
  refine zM ?_
  (try simp only [zI, zJ, Nat.reduceEqDiff, ↓reduceIte])
  refine hK _ ?_; clear hK K
  refine zB ?_
  refine zF (zC rfl rfl) ?_
  refine zF (zR rfl rfl rfl (by omega)) ?_
  refine zF (zD rfl rfl) ?_
  skip
  refine zE ?_
  refine ⟨i + 1, ⟨by omega, all_b_step hi.2 (by simpa using hc3)⟩, by omega, ⟨rfl, rfl, rfl, trivial⟩, (by rfl), (by rfl)⟩
 have hc2 := hc; have hnl : ¬ i < a.length := (by simpa using hc2)
 refine yE ?_; try simp only [zI, zJ, Nat.reduceEqDiff, ↓reduceIte]
 clear hK K
 refine hK _ ?_; clear hK K
 refine zA fun K hK => zB ?_
 refine zF (zD rfl rfl) ?_
 refine zE (hK _ ?_); clear hK K; try simp only [nA, Nat.reduceBEq, Nat.reduceEqDiff, ↓reduceIte, Nat.reduceAdd, Nat.reduceSub]
 skip
 refine zO ?_; (try simp only [zI, zJ, Nat.reduceEqDiff, ↓reduceIte]); rw [le_yes hc1 hnl hi.2]; exact zS rfl (.tmp (bl rfl) rfl rfl .nil)
theorem C26 {a b : List Container} (h1 : a.length ≤ 1000000) (hp : ∀ c ∈ a, c.pieces.length ≤ 1000000000) : Fn Tryz.prog 26 [] [.ro (a.map Container.av), .ro (b.map Container.av)] [.v (.bool (listEq sameC a b))] [] := by
 refine Spec.body Tryz.func26 rfl Tryz.ntmps26 (by simp) rfl ?_; intro S0 own0 v0 w0
 refine zA fun K hK => zB ?_
 refine zF (zD rfl rfl) ?_
 refine zE (hK _ ?_); clear hK K; try simp only [nA, Nat.reduceBEq, Nat.reduceEqDiff, ↓reduceIte, Nat.reduceAdd, Nat.reduceSub]
 refine zA fun K hK => ?_
 refine zA fun K hK => zB ?_
 refine zF (zC rfl rfl) ?_
 refine zF (zX (n := a.length) rfl rfl Tryz.underlying42 (.inr (.inl ⟨_, rfl, by simp⟩))) ?_
 refine zF (zC rfl rfl) ?_
 refine zF (zX (n := b.length) rfl rfl Tryz.underlying42 (.inr (.inl ⟨_, rfl, by simp⟩))) ?_
 refine zF (op_neq rfl rfl rfl) ?_
 refine zE (hK _ ?_); clear hK K; simp only [nA, ↓reduceIte]
 refine zL rfl rfl rfl (fun hc => ?_) (fun hc => ?_)
 ·
  have hc1 := hc
  refine zA fun K hK => zB ?_
  refine zF (zD rfl rfl) ?_
  refine zE (hK _ ?_); clear hK K; try simp only [nA, Nat.reduceBEq, Nat.reduceEqDiff, ↓reduceIte, Nat.reduceAdd, Nat.reduceSub]
  skip
  refine zO ?_; (try simp only [zI, zJ, Nat.reduceEqDiff, ↓reduceIte]); rw [le_ne hc1]; exact zS rfl (.tmp (bl rfl) rfl rfl .nil)
 have hc1 := hc; have hle : a.length = b.length := (by have e : (a.length : Int) = b.length := (by simpa using hc1); omega)
 refine zM ?_
 refine hK _ ?_; clear hK K
 refine zA fun K hK => ?_
 refine zA fun K hK => zB ?_
 refine zF (zD rfl rfl) ?_
 refine zE (hK _ ?_); clear hK K; try simp only [nA, Nat.reduceBEq, Nat.reduceEqDiff, ↓reduceIte, Nat.reduceAdd, Nat.reduceSub]
 refine zN ?_
 refine yC (fun i => [(0, .ro (a.map Container.av)), (1, .ro (b.map Container.av)), (5, .v (.int .i64 (i : Nat)))]) (fun i => ⟨[], 1⟩) (fun i => i ≤ a.length ∧ ∀ k, k < i → sameC (a.getD k default) (b.getD k default) = true) (fun i => a.length - i) 0 (by simp) ⟨rfl, rfl, rfl, trivial⟩ rfl ?_; intro i ρ hi; simp only [updL]
 refine zA fun K hK => ?_
 refine zA fun K hK => zB ?_
 refine zF (zC rfl rfl) ?_
 refine zF (zC rfl rfl) ?_
 refine zF (zX (n := a.length) rfl rfl Tryz.underlying42 (.inr (.inl ⟨_, rfl, by simp⟩))) ?_
 refine zF (yP rfl rfl rfl) ?_
 refine zE (hK _ ?_); clear hK K; simp only [nA, ↓reduceIte]
 refine zL rfl rfl rfl (fun hc => ?_) (fun hc => ?_)
 ·
  have hc2 := hc; have hlt : i < a.length := (by simpa using hc2)
  refine zM ?_
  refine hK _ ?_; clear hK K
  refine zA fun K hK => zN ?_
  refine zA fun K hK => ?_
  refine AW.quiet mix (by kernel_rfl) ?_
  refine zQ (zC rfl rfl) ?_
  refine zQ (zC rfl rfl) ?_
  refine zQ (zW i rfl (.inl rfl) rfl Tryz.underlying42 rfl (yF (by omega)) (by exact yH) (bl rfl)) ?_
  refine aqR (zY rfl rfl ag33 yH (bl rfl) (by decide) rfl) ?_
  refine zQ (zC rfl rfl) ?_
  refine zQ (zC rfl rfl) ?_
  refine zQ (zW i rfl (.inl rfl) rfl Tryz.underlying42 rfl (yF (by omega)) (by exact yH) (bl rfl)) ?_
  refine aqR (zY rfl rfl ag33 yH (bl rfl) (by decide) rfl) ?_
  refine aqQ (zT (b := true) rfl en53 (C53 (c := a.getD i default) (d := b.getD i default) (by rw [getD_c hlt]; exact hp _ (List.getElem_mem hlt))) (RL.cons (by exact View.same rfl) (RL.cons (by exact View.same rfl) (RL.nil))) rfl) ?_; simp only [nA, ↓reduceIte]
  refine zQ (op_not rfl rfl rfl) ?_
  refine yN (hK _ ?_); clear hK K; try simp only [nA, Nat.reduceBEq, Nat.reduceEqDiff, ↓reduceIte, Nat.reduceAdd, Nat.reduceSub]
  refine zL rfl rfl rfl (fun hc => ?_) (fun hc => ?_)
  ·
   have hc3 := hc
   refine zA fun K hK => zB ?_
   refine zF (zD rfl rfl) ?_
   refine zE (hK _ ?_); clear hK K; try simp only [nA, Nat.reduceBEq, Nat.reduceEqDiff, ↓reduceIte, Nat.reduceAdd, Nat.reduceSub]
   skip
   refine zO ?_; (try simp only [zI, zJ, Nat.reduceEqDiff, ↓reduceIte]); rw [le_no hlt hc3]; exact zS rfl (.tmp (bl rfl) rfl rfl .nil)
  have hc3 := hc
  refine zM ?_
  (try simp only [zI, zJ, Nat.reduceEqDiff, ↓reduceIte])
  refine hK _ ?_; clear hK K
  refine zB ?_
  refine zF (zC rfl rfl) ?_
  refine zF (zR rfl rfl rfl (by omega)) ?_
  refine zF (zD rfl rfl) ?_
  skip
  refine zE ?_
  refine ⟨i + 1, ⟨by omega, all_b_step hi.2 (by simpa using hc3)⟩, by omega, ⟨rfl, rfl, rfl, trivial⟩, (by rfl), (by rfl)⟩
 have hc2 := hc; have hnl : ¬ i < a.length := (by simpa using hc2)
 refine yE ?_; try simp only [zI, zJ, Nat.reduceEqDiff, ↓reduceIte]
 clear hK K
 refine hK _ ?_; clear hK K
 refine zA fun K hK => zB ?_
 refine zF (zD rfl rfl) ?_
 refine zE (hK _ ?_); clear hK K; try simp only [nA, Nat.reduceBEq, Nat.reduceEqDiff, ↓reduceIte, Nat.reduceAdd, Nat.reduceSub]
 skip
 refine zO ?_; (try simp only [zI, zJ, Nat.reduceEqDiff, ↓reduceIte]); rw [le_yes hc1 hnl hi.2]; exact zS rfl (.tmp (bl rfl) rfl rfl .nil)
structure Sml (l : List Container) : Prop where
 len : l.length ≤ 1000000
 p : ∀ c ∈ l, c.pieces.length ≤ 1000000000
theorem C21 {l : List Container} {f : Flight} {p : Piece} (hs : Sml l) : Fn Tryz.prog 21 [] [.ro (l.map Container.av), .agg f.av, .agg p.av] [.v (.int .i64 (choV l f p).1), .v (.int .i64 (choV l f p).2)] [] := by
 refine Spec.body Tryz.func21 rfl Tryz.ntmps21 (by simp) rfl ?_; intro S0 own0 v0 w0
 refine zA fun K hK => zB ?_
 refine yD (yO rfl rfl rfl sz25 rfl) ?_; simp only [nA, Nat.reduceBEq, Nat.reduceEqDiff, ↓reduceIte]
 refine yD (yO rfl rfl rfl yR rfl) ?_; simp only [nA, Nat.reduceBEq, Nat.reduceEqDiff, ↓reduceIte]
 refine zF (zD rfl rfl) ?_
 refine zF (zD rfl rfl) ?_
 refine zE (hK _ ?_); clear hK K; try simp only [nA, Nat.reduceBEq, Nat.reduceEqDiff, ↓reduceIte, Nat.reduceAdd, Nat.reduceSub]
 refine zA fun K hK => ?_
 refine zA fun K hK => zB ?_
 refine zF (zC rfl rfl) ?_
 refine yD (OpQ.j (zT (b := true) rfl en37 (C37 (xs := l) hs.len) (RL.cons (by exact View.same rfl) (RL.nil)) rfl)) ?_; simp only [nA, ↓reduceIte]
 refine zF (zD rfl rfl) ?_
 refine zE (hK _ ?_); clear hK K; simp only [nA]
 refine zA fun K hK => zB ?_
 refine zF (zC rfl rfl) ?_
 refine zF (op_neq rfl rfl rfl) ?_
 refine zE (hK _ ?_); clear hK K; simp only [nA]
 refine zL rfl rfl rfl (fun hc => ?_) (fun hc => ?_)
 ·
  have hc1 := hc; have g1 : chkL l ≠ 0 := (by simpa using hc1)
  refine zA fun K hK => zB ?_
  refine zF (zC rfl rfl) ?_
  refine zF (zD rfl rfl) ?_
  refine zF (zD rfl rfl) ?_
  refine zE (hK _ ?_); clear hK K; simp only [nA, ↓reduceIte]
  skip
  refine zO ?_; (try simp only [zI, zJ, Nat.reduceEqDiff, ↓reduceIte]); rw [show choV l f p = (0, chkL l) by unfold choV; rw [if_pos g1]]; exact zS rfl (.tmp (bl rfl) rfl rfl (.tmp (bl rfl) rfl rfl .nil))
 have hc1 := hc; have g1 : chkL l = 0 := (by simpa using hc1); have hfit := (InvO.of g1).fit
 refine zM ?_
 refine hK _ ?_; clear hK K
 refine zA fun K hK => ?_
 refine zA fun K hK => zB ?_
 refine awR (zK rfl rfl rfl rfl ag35 yR (bl rfl) rfl) ?_
 refine yD (OpQ.j (zT (b := true) rfl en41 (C41 (p := p)) (RL.cons (by exact View.same rfl) (RL.nil)) rfl)) ?_; try simp only [nA, Nat.reduceBEq, Nat.reduceEqDiff, ↓reduceIte, Nat.reduceAdd, Nat.reduceSub]
 refine zF (op_not rfl rfl rfl) ?_
 refine zE (hK _ ?_); clear hK K; try simp only [nA, Nat.reduceBEq, Nat.reduceEqDiff, ↓reduceIte, Nat.reduceAdd, Nat.reduceSub]
 refine zL rfl rfl rfl (fun hc => ?_) (fun hc => ?_)
 ·
  have hc2 := hc; have g2 : piB p = false := (by simpa using hc2)
  refine zA fun K hK => zB ?_
  refine zF (zD rfl rfl) ?_
  refine zF (zD rfl rfl) ?_
  refine zE (hK _ ?_); clear hK K; try simp only [nA, Nat.reduceBEq, Nat.reduceEqDiff, ↓reduceIte, Nat.reduceAdd, Nat.reduceSub]
  skip
  refine zO ?_; (try simp only [zI, zJ, Nat.reduceEqDiff, ↓reduceIte]); rw [show choV l f p = (0, 1) by unfold choV; rw [if_neg (by simp [g1]), if_pos g2]]; exact zS rfl (.tmp (bl rfl) rfl rfl (.tmp (bl rfl) rfl rfl .nil))
 have hc2 := hc; have g2 : piB p = true := (by simpa using hc2)
 refine zM ?_
 refine hK _ ?_; clear hK K
 refine zA fun K hK => ?_
 refine zA fun K hK => zB ?_
 refine zF (zC rfl rfl) ?_
 refine zF (zH rfl rfl rfl fl35_0 (by exact sz23) (by decide) rfl) ?_
 refine awR (zK rfl rfl rfl rfl ag23 sz23 (bl rfl) rfl) ?_
 refine yD (op_call (b := false) rfl en42 (C42 (xs := l) (p := p.plate) hs.len hs.p) (RL.cons (by exact View.same rfl) (RL.cons (by exact View.same rfl) (RL.nil))) rfl (fun h => by cases h) rfl rfl) ?_; simp only [nA, ↓reduceIte]
 refine zF (zC rfl rfl) ?_
 refine zF (z6 rfl rfl rfl) ?_
 refine zF (z6 rfl rfl rfl) ?_
 refine zF (zD rfl rfl) ?_
 refine zF (zD rfl rfl) ?_
 refine zE (hK _ ?_); clear hK K; simp only [nA, ↓reduceIte]
 refine zA fun K hK => zB ?_
 refine zF (zC rfl rfl) ?_
 refine zE (hK _ ?_); clear hK K; simp only [nA]
 refine zL rfl rfl rfl (fun hc => ?_) (fun hc => ?_)
 ·
  have hc3 := hc; have g3 : (findL l p.plate).2 = true := hc3
  refine zA fun K hK => zB ?_
  refine zF (zD rfl rfl) ?_
  refine zF (zD rfl rfl) ?_
  refine zE (hK _ ?_); clear hK K; try simp only [nA, Nat.reduceBEq, Nat.reduceEqDiff, ↓reduceIte, Nat.reduceAdd, Nat.reduceSub]
  skip
  refine zO ?_; (try simp only [zI, zJ, Nat.reduceEqDiff, ↓reduceIte]); rw [show choV l f p = (0, 5) by unfold choV; rw [if_neg (by simp [g1]), if_neg (by simp [g2]), if_pos g3]]; exact zS rfl (.tmp (bl rfl) rfl rfl (.tmp (bl rfl) rfl rfl .nil))
 have hc3 := hc; have g3 : (findL l p.plate).2 = false := hc3
 refine zM ?_
 refine hK _ ?_; clear hK K
 refine zA fun K hK => zB ?_
 refine zF (zC rfl rfl) ?_
 refine awR (zK rfl rfl rfl rfl ag25 sz25 (bl rfl) rfl) ?_
 refine awR (zK rfl rfl rfl rfl ag35 yR (bl rfl) rfl) ?_
 refine yD (op_call (b := false) rfl en43 (C43 (l := l) (f := f) (p := p) hfit g2) (RL.cons (by exact View.same rfl) (RL.cons (by exact View.same rfl) (RL.cons (by exact View.same rfl) (RL.nil)))) rfl (fun h => by cases h) rfl rfl) ?_; simp only [nA, ↓reduceIte]
 refine zF (zC rfl rfl) ?_
 refine zF (z6 rfl rfl rfl) ?_
 refine zF (z6 rfl rfl rfl) ?_
 refine zF (zD rfl rfl) ?_
 refine zF (zD rfl rfl) ?_
 refine zE (hK _ ?_); clear hK K; simp only [nA, ↓reduceIte]
 refine zA fun K hK => zN ?_
 refine zA fun K hK => zB ?_
 refine zF (zC rfl rfl) ?_
 refine zF (op_not rfl rfl rfl) ?_
 refine zF (zD rfl rfl) ?_
 refine zE (hK _ ?_); clear hK K; simp only [nA]
 refine zL rfl rfl rfl (fun hc => ?_) (fun hc => ?_)
 ·
  have hc4 := hc; have g4 : anyF l f = false := (by simpa using hc4)
  refine zA fun K hK => zB ?_
  refine zF (zD rfl rfl) ?_
  refine zF (zD rfl rfl) ?_
  refine zE (hK _ ?_); clear hK K; try simp only [nA, Nat.reduceBEq, Nat.reduceEqDiff, ↓reduceIte, Nat.reduceAdd, Nat.reduceSub]
  skip
  refine zO ?_; (try simp only [zI, zJ, Nat.reduceEqDiff, ↓reduceIte]); rw [show choV l f p = (0, 6) by unfold choV; rw [if_neg (by simp [g1]), if_neg (by simp [g2]), if_neg (by simp [g3]), if_pos g4]]; exact zS rfl (.tmp (bl rfl) rfl rfl (.tmp (bl rfl) rfl rfl .nil))
 have hc4 := hc; have g4 : anyF l f = true := (by simpa using hc4)
 refine zA fun K hK => zB ?_
 refine zF (zC rfl rfl) ?_
 refine zF (yP rfl rfl rfl) ?_
 refine zF (zD rfl rfl) ?_
 refine zE (hK _ ?_); clear hK K; simp only [nA, ↓reduceIte]
 refine zL rfl rfl rfl (fun hc => ?_) (fun hc => ?_)
 ·
  have hc5 := hc; have g5 : bestV l f p = none := (by cases hb : bestV l f p with | none => rfl | some i => rw [hb] at hc5; exact absurd (of_decide_eq_true hc5) (by show ¬ ((i : Nat) : Int) < 0; omega))
  refine zA fun K hK => zB ?_
  refine zF (zD rfl rfl) ?_
  refine zF (zD rfl rfl) ?_
  refine zE (hK _ ?_); clear hK K; try simp only [nA, Nat.reduceBEq, Nat.reduceEqDiff, ↓reduceIte, Nat.reduceAdd, Nat.reduceSub]
  skip
  refine zO ?_; (try simp only [zI, zJ, Nat.reduceEqDiff, ↓reduceIte]); rw [show choV l f p = (0, 8) by unfold choV; rw [if_neg (by simp [g1]), if_neg (by simp [g2]), if_neg (by simp [g3]), if_neg (by simp [g4]), g5]]; exact zS rfl (.tmp (bl rfl) rfl rfl (.tmp (bl rfl) rfl rfl .nil))
 have hc5 := hc; obtain ⟨i, hbi⟩ : ∃ i, bestV l f p = some i := (by cases hb : bestV l f p with | some i => exact ⟨i, rfl⟩ | none => rw [hb] at hc5; exact absurd (of_decide_eq_false hc5) (by show ¬ ¬ (-1 : Int) < 0; decide)); obtain ⟨hil, _, _⟩ := bestV_some hbi; rw [hbi]
 refine zM ?_
 (try simp only [zI, zJ, Nat.reduceEqDiff, ↓reduceIte])
 refine hK _ ?_; clear hK K
 refine zA fun K hK => zB ?_
 refine zF (zC rfl rfl) ?_
 refine zF (zC rfl rfl) ?_
 refine zF (zW i rfl (.inl rfl) rfl Tryz.underlying42 rfl (yF hil) (by exact yH) (bl rfl)) ?_
 refine zF (yM rfl rfl fl33_0 (by exact sz3) (by decide) (bl rfl) rfl) ?_
 refine awR (yA rfl rfl ag3) ?_
 refine zF (zD rfl rfl) ?_
 refine zF (zD rfl rfl) ?_
 refine zE (hK _ ?_); clear hK K; simp only [nA, ↓reduceIte]
 skip
 refine zO ?_; (try simp only [zI, zJ, Nat.reduceEqDiff, ↓reduceIte]); rw [show choV l f p = ((l.getD i default).number, 0) by unfold choV; rw [if_neg (by simp [g1]), if_neg (by simp [g2]), if_neg (by simp [g3]), if_neg (by simp [g4]), hbi]]; exact zS rfl (.tmp (bl rfl) rfl rfl (.tmp (bl rfl) rfl rfl .nil))
theorem C19 {l : List Container} {f : Flight} (hs : Sml l) : Fn Tryz.prog 19 [] [.ro (l.map Container.av), .agg f.av] [.v (.int .i64 (momV l f))] [] := by
 refine Spec.body Tryz.func19 rfl Tryz.ntmps19 (by simp) rfl ?_; intro S0 own0 v0 w0
 refine zA fun K hK => zB ?_
 refine yD (yO rfl rfl rfl sz25 rfl) ?_; simp only [nA, Nat.reduceBEq, Nat.reduceEqDiff, ↓reduceIte]
 refine zF (zD rfl rfl) ?_
 refine zE (hK _ ?_); clear hK K; try simp only [nA, Nat.reduceBEq, Nat.reduceEqDiff, ↓reduceIte, Nat.reduceAdd, Nat.reduceSub]
 refine zA fun K hK => ?_
 refine zA fun K hK => zB ?_
 refine zF (zC rfl rfl) ?_
 refine yD (OpQ.j (zT (b := true) rfl en37 (C37 (xs := l) hs.len) (RL.cons (by exact View.same rfl) (RL.nil)) rfl)) ?_; simp only [nA, ↓reduceIte]
 refine zF (op_neq rfl rfl rfl) ?_
 refine zE (hK _ ?_); clear hK K; try simp only [nA, Nat.reduceBEq, Nat.reduceEqDiff, ↓reduceIte, Nat.reduceAdd, Nat.reduceSub]
 refine zL rfl rfl rfl (fun hc => ?_) (fun hc => ?_)
 ·
  have hc1 := hc
  refine zA fun K hK => zB ?_
  refine zF (zD rfl rfl) ?_
  refine zE (hK _ ?_); clear hK K; try simp only [nA, Nat.reduceBEq, Nat.reduceEqDiff, ↓reduceIte, Nat.reduceAdd, Nat.reduceSub]
  skip
  refine zO ?_; (try simp only [zI, zJ, Nat.reduceEqDiff, ↓reduceIte]); rw [show momV l f = 0 by unfold momV; rw [if_pos (by simpa using hc1)]]; exact zS rfl (.tmp (bl rfl) rfl rfl .nil)
 have hc1 := hc; have g1 : chkL l = 0 := (by simpa using hc1)
 refine zM ?_
 refine hK _ ?_; clear hK K
 refine zA fun K hK => zB ?_
 refine zF (zC rfl rfl) ?_
 refine awR (zK rfl rfl rfl rfl ag25 sz25 (bl rfl) rfl) ?_
 refine yD (OpQ.j (zT (b := true) rfl en38 (C38 (l := l) (f := f) (InvO.of g1).fit) (RL.cons (by exact View.same rfl) (RL.cons (by exact View.same rfl) (RL.nil))) rfl)) ?_; simp only [nA, ↓reduceIte]
 refine zF (zD rfl rfl) ?_
 refine zE (hK _ ?_); clear hK K; simp only [nA]
 skip
 refine zO ?_; (try simp only [zI, zJ, Nat.reduceEqDiff, ↓reduceIte]); rw [show momV l f = mom l f by unfold momV; rw [if_neg (by simp [g1])]]; exact zS rfl (.tmp (bl rfl) rfl rfl .nil)
set_option maxRecDepth 100000
theorem C23 {l : List Int} {k0 m : Nat} (hl : l.length ≤ 2000) (hm : m ≤ 100) : Fn Tryz.prog 23 [.own 67 [srcRow l k0]] [.ptr 0 0 0 0, .v (.int .i64 (m : Nat))] [.ro ((bagsV l k0 m).2.map Piece.av)] [.own 67 [srcRow l (bagsV l k0 m).1]] := by
 have hk0 := idxV_lt l k0 (n := m + 1) (by omega)
 refine Spec.body Tryz.func23 rfl Tryz.ntmps23 (by simp) rfl ?_; intro S0 own0 v0 w0
 refine zA fun K hK => zB ?_
 refine zF (zD rfl rfl) ?_
 refine zE (hK _ ?_); clear hK K; try simp only [nA, Nat.reduceBEq, Nat.reduceEqDiff, ↓reduceIte, Nat.reduceAdd, Nat.reduceSub]
 refine zA fun K hK => zB ?_
 refine zF (zD rfl rfl) ?_
 refine zE (hK _ ?_); clear hK K; try simp only [nA, Nat.reduceBEq, Nat.reduceEqDiff, ↓reduceIte, Nat.reduceAdd, Nat.reduceSub]
 refine zA fun K hK => ?_
 refine zA fun K hK => zB ?_
 refine zF (zC rfl rfl) ?_
 refine zF (zC rfl rfl) ?_
 refine zF (zR rfl rfl rfl (by omega)) ?_
 refine yD (yQ rfl en18 (C18n (n := m + 1) hl (by omega) (by omega)) (by exact rfl) (RL.cons .ptr (RL.cons (.base (by exact View.same rfl)) (RL.nil))) (by exact ⟨_, _, _, rfl, rfl, rfl⟩) (by exact rfl) (by exact rfl) (by exact rfl)) ?_; simp only [nA, ↓reduceIte]
 refine zF (zD rfl rfl) ?_
 refine zE (hK _ ?_); clear hK K; simp only [nA]
 refine zN ?_
 refine AW.gh (Gh.nil (e := 35) 5 (bl rfl) rfl yR) ?_; (simp only [nA, Nat.reduceBEq, Nat.reduceEqDiff, ↓reduceIte]); refine yC (fun (q : Nat × Nat × List Piece × Nat × Nat) => [(0, .ptr 0 0 0 0), (5, .sl 1 q.2.2.2.1 0 q.2.2.1.length), (6, .v (.int .i64 (q.1 : Nat)))]) (fun q => ⟨[(0, .own 67 [srcRow l q.2.1]), (q.2.2.2.1, .own 35 (q.2.2.1.map Piece.av))], q.2.2.2.2⟩) (fun q => q.2.2.1.length + q.1 = yG l k0 (m + 1) ∧ bagS l q.1 q.2.1 q.2.2.1 = bagsV l k0 m) (fun q => q.1) (yG l k0 (m + 1), zP l k0, [], _, _) ⟨by simp, rfl⟩ ⟨rfl, rfl, rfl, trivial⟩ rfl ?_; rintro ⟨f, k, a, v, ep⟩ ρ hI; dsimp only at hI ⊢; simp only [updL]
 refine zA fun K hK => ?_
 refine zA fun K hK => zB ?_
 refine zF (zC rfl rfl) ?_
 refine zF (op_gtr rfl rfl rfl) ?_
 refine zE (hK _ ?_); clear hK K; simp only [nA, ↓reduceIte]
 refine zL rfl rfl rfl (fun hc => ?_) (fun hc => ?_)
 ·
  have hc1 := hc; obtain ⟨f, rfl⟩ : ∃ g, f = g + 1 := (by have h : (f : Int) > 0 := (by simpa using hc1); exact ⟨f - 1, by omega⟩); have hR := hI.2; have hlen : a.length ≤ 1000 := (by omega); have hix : (100 : Int) + ((a.length : Nat) : Int) * 7 % 40 = 100 + ((a.length * 7 % 40 : Nat) : Int) := (by omega)
  refine zM ?_
  refine hK _ ?_; clear hK K
  refine zA fun K hK => zN ?_
  refine zA fun K hK => zB ?_
  refine zF (zC rfl rfl) ?_
  refine yD (yQ rfl en11 (C11 (n := 1) hl (by decide)) (by exact rfl) (RL.cons .ptr (RL.cons (.base (by exact View.same rfl)) (RL.nil))) (by exact ⟨_, _, _, rfl, rfl, rfl⟩) (by exact rfl) (by exact rfl) (by exact rfl)) ?_; simp only [nA, ↓reduceIte]
  refine yD (op_alloc rfl ze35 rfl) ?_; simp only [nA, Nat.reduceBEq, Nat.reduceEqDiff, ↓reduceIte]
  refine yD (z8 rfl rfl rfl rfl rfl rfl yR rfl (bl rfl) rfl) ?_; simp only [nA, Nat.reduceBEq, Nat.reduceEqDiff, ↓reduceIte]
  refine zE (hK _ ?_); clear hK K
  refine zA fun K hK => zB ?_
  refine zF (zC rfl rfl) ?_
  refine zF (op_len_sl rfl rfl rfl Tryz.underlying31) ?_
  refine zF (op_muli rfl rfl rfl (by omega)) ?_
  refine zF (op_remi rfl rfl rfl (by omega)) ?_
  refine zF (zR rfl rfl rfl (by omega)) ?_; rw [hix]
  refine yD (op_call (b := false) rfl en30 (C30 (i := 100 + ((a.length * 7 % 40 : Nat) : Int))) (RL.cons (by exact View.same rfl) (RL.nil)) rfl (fun h => by cases h) rfl rfl) ?_; simp only [nA, ↓reduceIte]
  refine zF (zH rfl rfl rfl fl35_0 (by exact sz23) (by decide) rfl) ?_
  refine yD (z8 rfl rfl rfl rfl rfl rfl sz23 rfl (bl rfl) rfl) ?_; try simp only [nA, Nat.reduceBEq, Nat.reduceEqDiff, ↓reduceIte, Nat.reduceAdd, Nat.reduceSub]
  refine zE (hK _ ?_); clear hK K
  refine zB ?_
  refine zF (zC rfl rfl) ?_
  refine awR (zK rfl rfl rfl rfl ag35 yR (bl rfl) rfl) ?_
  refine yD (OpJ.frz (zV rfl [(0, ((bagP l a.length k)).av)] [((bagP l a.length k)).av] Tryz.underlying31 ze35 rfl (by simp) rfl (by simp) rfl (bl rfl) (by simp [maxLen])) (by simp [flatA]) rfl) ?_; simp only [nA, ↓reduceIte]
  refine yD (op_app (r := 1) (rows := [((bagP l a.length k)).av]) rfl rfl rfl rfl (by simp) .ro Tryz.underlying31 ze35 (by decide) (av_len [(bagP l a.length k)]) (by simp; omega) (by decide) (es' := (a ++ [(bagP l a.length k)]).map Piece.av) (by simp) (n := (a ++ [(bagP l a.length k)]).length) (by simp)) ?_; try simp only [nA, Nat.reduceBEq, Nat.reduceEqDiff, ↓reduceIte, Nat.reduceAdd, Nat.reduceSub]
  refine zF (zD rfl rfl) ?_
  refine zE ?_
  (try simp only [zI, zJ, Nat.reduceEqDiff, ↓reduceIte])
  refine hK _ ?_; clear hK K; simp only [nA]
  refine zB ?_
  refine zF (zC rfl rfl) ?_
  refine zF (op_subi rfl rfl rfl (by omega)) ?_
  refine zF (zD rfl rfl) ?_
  refine AWL.gh (Gh.drop 2) ?_; simp only [nA, ↓reduceIte]
  refine zE ?_
  refine ⟨(f, nx3 l k, a ++ [(bagP l a.length k)], _, _), ⟨by simp; omega, by rw [← hR]; rfl⟩, by dsimp only; omega, ⟨rfl, rfl, (by show AV.v (Value.int .i64 (((f + 1 : Nat) : Int) - 1)) = AV.v (Value.int .i64 (f : Nat)); congr 2; omega), trivial⟩, (by rfl), (by rfl)⟩
 have hc1 := hc; obtain rfl : f = 0 := (by have h : ¬ ((f : Int) > 0) := (by simpa using hc1); omega); have hE : bagsV l k0 m = (k, a) := hI.2.symm
 refine yE ?_; try simp only [zI, zJ, Nat.reduceEqDiff, ↓reduceIte]
 clear hK K
 refine hK _ ?_; clear hK K
 refine zA fun K hK => zB ?_
 refine zF (zC rfl rfl) ?_
 refine zF (zD rfl rfl) ?_
 refine zE (hK _ ?_); clear hK K; simp only [nA, ↓reduceIte]
 refine AW.gh (Gh.freeze 4 (bl rfl) rfl rfl (by simp [flatA]) (es' := a.map Piece.av) (List.take_of_length_le (by simp))) ?_; try simp only [nA, Nat.reduceBEq, Nat.reduceEqDiff, ↓reduceIte, Nat.reduceAdd, Nat.reduceSub]
 refine zO ?_; (try simp only [zI, zJ, Nat.reduceEqDiff, ↓reduceIte]); rw [hE]; exact RQ.of (.inl rfl) rfl (.tmp (bl rfl) rfl rfl .nil) (by simp) rfl (one_out rfl)
theorem getD_memC {l : List Container} {i : Nat} (h : i < l.length) : l.getD i default ∈ l := by rw [getD_c h]; exact List.getElem_mem h
theorem take_snoc {l : List Container} {i : Nat} (h : i < l.length) : (l.take i).map Container.av ++ [(l.getD i default).av] = (l.take (i + 1)).map Container.av := by
 rw [List.take_add_one, List.map_append, List.getElem?_eq_getElem h, getD_c h]; rfl
theorem C51 {l : List Container} (hl : l.length ≤ 1000000) (hp : ∀ c ∈ l, c.pieces.length ≤ 1000000) : Fn Tryz.prog 51 [] [.ro (l.map Container.av)] [.own 33 (l.map Container.av)] [] := by
 refine Spec.body Tryz.func51 rfl Tryz.ntmps51 (by simp) rfl ?_; intro S0 own0 v0 w0
 refine zA fun K hK => zB ?_
 refine zF (zD rfl rfl) ?_
 refine zE (hK _ ?_); clear hK K; try simp only [nA, Nat.reduceBEq, Nat.reduceEqDiff, ↓reduceIte, Nat.reduceAdd, Nat.reduceSub]
 refine zA fun K hK => zB ?_
 refine zF (zD rfl rfl) ?_
 refine zE (hK _ ?_); clear hK K; try simp only [nA, Nat.reduceBEq, Nat.reduceEqDiff, ↓reduceIte, Nat.reduceAdd, Nat.reduceSub]
 refine zA fun K hK => ?_
 refine zA fun K hK => zB ?_
 refine zF (zD rfl rfl) ?_
 refine zE (hK _ ?_); clear hK K; try simp only [nA, Nat.reduceBEq, Nat.reduceEqDiff, ↓reduceIte, Nat.reduceAdd, Nat.reduceSub]
 refine zN ?_
 refine AW.gh (Gh.nil (e := 33) 3 (bl rfl) rfl yH) ?_; (simp only [nA, Nat.reduceBEq, Nat.reduceEqDiff, ↓reduceIte]); refine yC (fun (q : Nat × Nat × Nat) => [(0, .ro (l.map Container.av)), (3, .sl 0 q.2.1 0 q.1), (4, .v (.int .i64 (q.1 : Nat)))]) (fun q => ⟨[(q.2.1, .own 33 ((l.take q.1).map Container.av))], q.2.2⟩) (fun q => q.1 ≤ l.length) (fun q => l.length - q.1) (0, _, _) (by simp) ⟨rfl, rfl, rfl, trivial⟩ rfl ?_; rintro ⟨i, v, ep⟩ ρ hi; dsimp only at hi ⊢; simp only [updL]
 refine zA fun K hK => ?_
 refine zA fun K hK => zB ?_
 refine zF (zC rfl rfl) ?_
 refine zF (zC rfl rfl) ?_
 refine zF (zX (n := l.length) rfl rfl Tryz.underlying42 (.inr (.inl ⟨_, rfl, by simp⟩))) ?_
 refine zF (yP rfl rfl rfl) ?_
 refine zE (hK _ ?_); clear hK K; simp only [nA, ↓reduceIte]
 refine zL rfl rfl rfl (fun hc => ?_) (fun hc => ?_)
 ·
  have hc1 := hc; have hlt : i < l.length := (by simpa using hc1); have hpl := hp _ (getD_memC hlt)
  refine zM ?_
  refine hK _ ?_; clear hK K
  refine zA fun K hK => zN ?_
  refine zA fun K hK => zB ?_
  refine zF (zC rfl rfl) ?_
  refine zF (zC rfl rfl) ?_
  refine zF (zW i rfl (.inl rfl) rfl Tryz.underlying42 rfl (yF hlt) (by exact yH) (bl rfl)) ?_
  refine awR (zY rfl rfl ag33 yH (bl rfl) (by decide) rfl) ?_
  refine yD (op_alloc rfl ze33 rfl) ?_; simp only [nA, ↓reduceIte]
  refine yD (z8 rfl rfl rfl rfl rfl rfl yH rfl (bl rfl) rfl) ?_; simp only [nA, Nat.reduceBEq, Nat.reduceEqDiff, ↓reduceIte]
  refine zE (hK _ ?_); clear hK K
  refine zA fun K hK => zB ?_
  refine yD (op_lit0 rfl Tryz.underlying31 yR) ?_; try simp only [nA, Nat.reduceBEq, Nat.reduceEqDiff, ↓reduceIte, Nat.reduceAdd, Nat.reduceSub]
  refine zF (zH rfl rfl rfl fl33_7 (by exact sz31) (by decide) rfl) ?_
  refine awR (zG rfl rfl rfl rfl ag31 rfl rfl) ?_
  refine yD (op_app_rof (sz := 5) (es := []) (rows := (((l.getD i default)).pieces.map Piece.av)) rfl rfl rfl .ro Tryz.underlying31 ze35 (by decide) (by simp) (av_len _) (by simp only [List.length_map, List.length_nil]; omega) (by decide) (List.nil_append _)) ?_; try simp only [nA, Nat.reduceBEq, Nat.reduceEqDiff, ↓reduceIte, Nat.reduceAdd, Nat.reduceSub]
  refine zF (zH rfl rfl rfl fl33_7 (by exact sz31) (by decide) rfl) ?_
  refine yD (z8 rfl rfl rfl rfl rfl rfl sz31 rfl (bl rfl) rfl) ?_; simp only [nA, ↓reduceIte]
  refine zE (hK _ ?_); clear hK K
  refine zB ?_
  refine zF (zC rfl rfl) ?_
  refine awR (zK rfl rfl rfl rfl ag33 yH (bl rfl) rfl) ?_
  refine yD (OpJ.frz (zV rfl [(0, ((l.getD i default)).av)] [((l.getD i default)).av] Tryz.underlying42 ze33 rfl (by simp) rfl (by simp) rfl (bl rfl) (by simp [maxLen])) (by simp [flatA]) rfl) ?_; simp only [nA, ↓reduceIte]
  refine yD (op_app (r := 0) (rows := [((l.getD i default)).av]) rfl rfl rfl rfl (by simp; omega) .ro Tryz.underlying42 ze33 (by decide) (by simp) (by simp; omega) (by decide) (es' := (l.take (i + 1)).map Container.av) (take_snoc hlt) (n := i + 1) (by simp; omega)) ?_; try simp only [nA, Nat.reduceBEq, Nat.reduceEqDiff, ↓reduceIte, Nat.reduceAdd, Nat.reduceSub]
  refine zF (zD rfl rfl) ?_
  refine zE ?_
  (try simp only [zI, zJ, Nat.reduceEqDiff, ↓reduceIte])
  refine hK _ ?_; clear hK K; simp only [nA]
  refine zB ?_
  refine zF (zC rfl rfl) ?_
  refine zF (zR rfl rfl rfl (by omega)) ?_
  refine zF (zD rfl rfl) ?_
  refine AWL.gh (Gh.drop 1) ?_; simp only [nA, ↓reduceIte]
  refine zE ?_
  refine ⟨(i + 1, _, _), by dsimp only; omega, by dsimp only; omega, ⟨rfl, rfl, rfl, trivial⟩, (by rfl), (by rfl)⟩
 have hc1 := hc; obtain rfl : i = l.length := (by have : ¬ i < l.length := (by simpa using hc1); omega); rw [List.take_length]
 refine yE ?_; try simp only [zI, zJ, Nat.reduceEqDiff, ↓reduceIte]
 clear hK K
 refine hK _ ?_; clear hK K
 refine zA fun K hK => zB ?_
 refine zF (zC rfl rfl) ?_
 refine zF (zD rfl rfl) ?_
 refine zE (hK _ ?_); clear hK K; simp only [nA, ↓reduceIte]
 skip
 refine zO ?_; (try simp only [zI, zJ, Nat.reduceEqDiff, ↓reduceIte]); exact zS rfl (.own (bl rfl) rfl rfl (by simp) (by simp) .nil)
theorem av_flatP (l : List Piece) : ∀ r ∈ l.map Piece.av, ∀ c ∈ r, flatA c = true := fun r hr c hc => by
 obtain ⟨x, _, rfl⟩ := List.mem_map.1 hr
 simp only [Piece.av, List.mem_cons, List.not_mem_nil, or_false] at hc
 rcases hc with rfl | rfl | rfl | rfl | rfl <;> rfl
theorem conv_lenC (l : List Container) : ∀ x ∈ l.map Container.av, x.length = 11 := fun x hx => by obtain ⟨g, _, rfl⟩ := List.mem_map.1 hx; rfl
theorem C50 {l : List Container} (hl : l.length ≤ 1000000) (hp : ∀ c ∈ l, c.pieces.length ≤ 1000000) : Fn Tryz.prog 50 [] [.ro (l.map Container.av)] [.own 33 (l.map Container.av)] [] := by
 refine Spec.body Tryz.func50 rfl Tryz.ntmps50 (by simp) rfl ?_; intro S0 own0 v0 w0
 refine zA fun K hK => zB ?_
 refine zF (zD rfl rfl) ?_
 refine zE (hK _ ?_); clear hK K; try simp only [nA, Nat.reduceBEq, Nat.reduceEqDiff, ↓reduceIte, Nat.reduceAdd, Nat.reduceSub]
 refine zA fun K hK => zB ?_
 refine zF (zC rfl rfl) ?_
 refine yD (op_app_nil (rows := l.map Container.av) rfl rfl rfl .ro Tryz.underlying42 ze33 (by decide) (conv_lenC _) (by simp; omega) (by decide) (n := l.length) (by simp)) ?_; simp only [nA, Nat.reduceBEq, Nat.reduceEqDiff, ↓reduceIte]
 refine zF (zD rfl rfl) ?_
 refine zE (hK _ ?_); clear hK K; simp only [nA]
 refine zA fun K hK => ?_
 refine zA fun K hK => zB ?_
 refine zF (zC rfl rfl) ?_
 refine zF (op_len_sl rfl rfl rfl Tryz.underlying42) ?_
 refine zF (zC rfl rfl) ?_
 refine zE (hK _ ?_); clear hK K; simp only [nA]
 refine zN ?_
 refine yC (fun (i : Nat) => [(3, .sl 0 1 0 l.length), (7, .sl 0 1 0 l.length), (8, .v (.int .i64 (l.length : Nat))), (9, .v (.int .i64 (i : Nat)))]) (fun _ => ⟨[(1, .own 33 (l.map Container.av))], _⟩) (fun i => i ≤ l.length) (fun i => l.length - i) 0 (by simp) ⟨rfl, rfl, rfl, rfl, trivial⟩ rfl ?_; intro i ρ hi; simp only [updL]
 refine zA fun K hK => zB ?_
 refine zF (yP rfl rfl rfl) ?_
 refine zE (hK _ ?_); clear hK K; try simp only [nA, Nat.reduceBEq, Nat.reduceEqDiff, ↓reduceIte, Nat.reduceAdd, Nat.reduceSub]
 refine zA fun K hK => ?_
 refine zL rfl rfl rfl (fun hc => ?_) (fun hc => ?_)
 ·
  have hc1 := hc; have hlt : i < l.length := (by simpa using hc1); have hpl := hp _ (getD_memC hlt)
  refine zM ?_
  refine hK _ ?_; clear hK K
  refine zA fun K hK => zN ?_
  refine zA fun K hK => zB ?_
  refine zF (zC rfl rfl) ?_
  refine zF (zD rfl rfl) ?_
  refine zE (hK _ ?_); clear hK K; simp only [nA, ↓reduceIte]
  refine zB ?_
  refine zF (zC rfl rfl) ?_
  refine zF (zC rfl rfl) ?_
  refine zF (zC rfl rfl) ?_
  refine zF (zC rfl rfl) ?_
  refine zF (op_ia_sl i 11 rfl rfl rfl rfl Tryz.underlying42 rfl hlt (by exact yH) (Nat.zero_add _)) ?_
  refine zF (zH rfl rfl rfl fl33_7 (by exact sz31) (by decide) rfl) ?_
  refine awR (zG (row := ((l.getD i default)).av) rfl rfl rfl (yF hlt) ag31 rfl rfl) ?_
  refine yD (OpJ.frz (op_app_nil (rows := (((l.getD i default)).pieces.map Piece.av)) rfl rfl rfl .ro Tryz.underlying31 ze35 (by decide) (av_len _) (by simp only [List.length_map]; omega) (by decide) (n := ((l.getD i default)).pieces.length) (by simp)) (av_flatP _) (by simp)) ?_; simp only [nA, ↓reduceIte]
  refine zF (op_ia_sl i 11 rfl rfl rfl rfl Tryz.underlying42 rfl hlt (by exact yH) (Nat.zero_add _)) ?_
  refine zF (zH rfl rfl rfl fl33_7 (by exact sz31) (by decide) rfl) ?_
  refine yD (z8 rfl rfl rfl rfl (yF hlt) rfl sz31 rfl (bl rfl) (es' := l.map Container.av) (set_same (yF hlt))) ?_; try simp only [nA, Nat.reduceBEq, Nat.reduceEqDiff, ↓reduceIte, Nat.reduceAdd, Nat.reduceSub]
  refine zE ?_
  (try simp only [zI, zJ, Nat.reduceEqDiff, ↓reduceIte])
  refine hK _ ?_; clear hK K
  refine zB ?_
  refine zF (zR rfl rfl rfl (by omega)) ?_
  refine zF (zC rfl rfl) ?_
  skip
  refine zE ?_
  refine ⟨i + 1, by omega, by omega, ⟨rfl, rfl, rfl, rfl, trivial⟩, (by rfl), (by rfl)⟩
 have hc1 := hc
 refine yE ?_; try simp only [zI, zJ, Nat.reduceEqDiff, ↓reduceIte]
 clear hK K
 refine hK _ ?_; clear hK K
 refine zA fun K hK => zB ?_
 refine zF (zC rfl rfl) ?_
 refine zF (zD rfl rfl) ?_
 refine zE (hK _ ?_); clear hK K; simp only [nA, ↓reduceIte]
 skip
 refine zO ?_; (try simp only [zI, zJ, Nat.reduceEqDiff, ↓reduceIte]); exact zS rfl (.own (bl rfl) rfl rfl (by simp) (by simp) .nil)
section
variable {C : Cx} {o : Oper} {ev : Operand → AV} {T : Sl}
theorem splice_nil {α : Type} (l : List α) (i : Nat) : yJ l i [] = l := by unfold yJ; simp
theorem RL.take {α β : Type} {R : α → β → Prop} {us : List α} {xs : List β} (h : RL R us xs) (n : Nat) : RL R (us.take n) (xs.take n) := by
 refine ⟨by rw [List.length_take, List.length_take, h.1], fun i u x hu hx => ?_⟩
 rw [List.getElem?_take] at hu hx
 split at hu
 · rename_i hi
   rw [if_pos hi] at hx
   exact h.2 i u x hu hx
 cases hu
theorem op_copy {t e : TypeId} {y s : Operand} {sz : Nat} {r k i m : Nat} {es rows es' : List (List AV)} {sv : AV} (ho : o.op = .call { callee := .builtin .copy, args := #[y, s], argTypes := #[t, t] }) (hy : ev y = .sl r k i m) (hs : ev s = sv) (hT : T.slots[r]? = some (k, .own e es)) (hsrc : Src T sv rows)
   (ht : C.P.underlying t = some (.slice e)) (hz : sizeIs C.P e sz) (hsz : ∀ x ∈ rows, x.length = sz) (hmr : m ≤ rows.length) (hfit : i + m ≤ es.length) (he : yJ es i (rows.take m) = es') :
   OpJ C o ev T (.v (.int .i64 (m : Nat))) ⟨T.slots.set r (k, .own e es'), T.ep⟩ := by
 subst he
 intro a w S vals bss hm h K hK Q
 have h1 := h y (by simp [ho, Op.operands, Call.operands])
 have h2 := h s (by simp [ho, Op.operands, Call.operands])
 rw [hy] at h1
 rw [hs] at h2
 obtain ⟨v, bs, hv, hbb, hrep⟩ := hm.slot hT
 obtain ⟨us0, sz0, bss0, -, hi0, hsz0, hown, -⟩ := hrep.own_inv
 obtain rfl := hi0.inj hz
 obtain ⟨A, c, us, sz', e1, h3, h4, h5, h6, h7⟩ := src_cells hm hsrc h2
 obtain ⟨hol, A0, nn, cap0, hve, g3, g4, g5, g6⟩ := h1.2.2 e es v sz0 hT hv hi0
 rcases Nat.eq_zero_or_pos m with hm0 | hm0
 · subst hm0
   have hT' : (⟨T.slots.set r (k, .own e (yJ es i (rows.take 0))), T.ep⟩ : Sl) = T := by
     rw [List.take_zero, splice_nil, set_same hT]
   rw [hT'] at hK
   have hyv : ∃ B c', a.eval y = .slice B 0 c' := by
     rcases g6 with ⟨-, h8⟩ | ⟨A', -, h8, _⟩
     · exact ⟨_, _, h8⟩
     exact ⟨_, _, h8⟩
   obtain ⟨B, c', hyv⟩ := hyv
   have hrun : (Builtin.copy_ #[t, t] o.type #[.slice B 0 c', .slice A rows.length c]).run C.P w = .ok (.int .i64 0) w := by
     cases B <;> cases A <;> simp [Builtin.copy_, run_underlying ht, run_sizeOf hi0, Builtin.lenOf, Builtin.firstCells, loadCells, loadCellsFrom, storeCells, goInt]
   unfold Oper.wp execOp
   simp only [ho, resolve, invoke, builtin, Sem.run_bind, Sem.run_pure, Result.andThen_ok, List.map_toArray, List.map_cons, List.map_nil, hyv, e1, hrun]
   exact hK _ w S vals bss hm Follows.refl (TmpOK.v_ rfl)
 have hrl : (rows.take m).length = m := by rw [List.length_take]; omega
 have hszm : ∀ x ∈ rows.take m, x.length = sz0 := fun x hx => hsz x (List.mem_of_mem_take hx)
 have hfl := flat_len hsz0
 have hfr := flat_len hszm
 have htk : (rows.take m).flatten = rows.flatten.take (m * sz0) := by have := flat_cut hsz 0 m; simpa using this
 have h6' : RL (Rep C.P S w []) (us.take (m * sz0)) (rows.take m).flatten := by rw [htk]; exact h6.take _
 obtain ⟨g, cap, cur, w', bss', hvv, hg, hcur, hw', hm', hf⟩ := put_core hm hT hi0 h6' (i * sz0) (by rw [hfl, hfr, ← Nat.add_mul]; exact Nat.mul_le_mul_right _ (by rw [hrl]; exact hfit)) (es' := yJ es i (rows.take m)) (splice_len _ _ _ (by rw [hrl]; exact hfit)) (fun x hx => (mem_splice hx).elim (hsz0 x) (hszm x)) (splice_take_drop hsz0 hszm _ (by rw [hrl]; exact hfit)) (by omega)
 rw [hv] at hvv
 injection hvv with hvv
 subst hvv
 injection hve with q1 q2 q3
 subst q1; subst q2; subst q3
 have hyv : ∃ c', a.eval y = .slice (some ⟨g, i * sz0, none⟩) m c' := by
   rcases g6 with ⟨h0, h8⟩ | ⟨A', h0, h8, h9⟩
   · subst h0; exact ⟨_, by rw [h8, Nat.zero_mul]⟩
   obtain ⟨g', e2, e3⟩ := h9 hm0
   injection e2 with e2
   injection e2 with e2
   subst e2
   exact ⟨_, by rw [h8, e3]⟩
 obtain ⟨c', hyv⟩ := hyv
 have hul : (us.take (m * sz0)).length = m * sz0 := by rw [h6'.1, hfr, hrl]
 have hld : (Builtin.firstCells sz0 m (.slice A rows.length c)).run C.P w = .ok (us.take (m * sz0)).toArray w := by
   rcases Nat.eq_zero_or_pos (us.take (m * sz0)).length with h0 | h0
   · have : m * sz0 = 0 := by rw [← hul]; exact h0
     rw [List.eq_nil_of_length_eq_zero h0]
     cases A <;> simp [Builtin.firstCells, this, loadCells, loadCellsFrom]
   obtain ⟨g2, o2, hA, hc⟩ := h7 (by rw [List.length_take] at h0; omega)
   subst hA
   have := run_loadCells_list (P := C.P) w ⟨g2, o2, none⟩ (us.take (m * sz0)) (fun j v hj => by
     rw [add_off]
     rw [List.getElem?_take] at hj
     split at hj
     · exact hc j v hj
     cases hj)
   rw [hul] at this
   simp only [Builtin.firstCells]
   exact this
 have hst := run_storeCells_at C.P g (i * sz0) e (us.take (m * sz0)) 0 cur w hg (by simpa using hcur) (fun u hu => by
   obtain ⟨q, hq, rfl⟩ := List.getElem_of_mem hu
   exact (h6'.2 q _ ((rows.take m).flatten[q]'(by rw [← h6'.1]; exact hq)) (List.getElem?_eq_getElem _) (List.getElem?_eq_getElem _)).one)
 simp only [Nat.add_zero] at hst
 rw [← hw'] at hst
 have hmin : Nat.min rows.length m = m := Nat.min_eq_right hmr
 have hrun : (Builtin.copy_ #[t, t] o.type #[.slice (some ⟨g, i * sz0, none⟩) m c', .slice A rows.length c]).run C.P w = .ok (.int .i64 (m : Nat)) w' := by
   simp [Builtin.copy_, run_underlying ht, run_sizeOf hi0, Builtin.lenOf, hmin, hld, hst, goInt]
 unfold Oper.wp execOp
 simp only [ho, resolve, invoke, builtin, Sem.run_bind, Sem.run_pure, Result.andThen_ok, List.map_toArray, List.map_cons, List.map_nil, hyv, e1, hrun]
 exact hK _ w' S vals bss' hm' hf (TmpOK.v_ rfl)
end
set_option maxRecDepth 100000
abbrev Z0 : Piece := ⟨⟨0, 0, 0⟩, 0, 0⟩
def ordT (l : List Piece) (i : Nat) : List Piece := (l.take i).foldl insB []
theorem ordT_len (l : List Piece) {i : Nat} (h : i ≤ l.length) : (ordT l i).length = i := by
 have := (ordV_perm (l.take i)).length_eq
 rw [List.length_take] at this
 show (ordV (l.take i)).length = i
 omega
theorem ordT_succ {l : List Piece} {i : Nat} (h : i < l.length) : ordT l (i + 1) = insB (ordT l i) (l.getD i default) := by
 unfold ordT
 rw [List.take_add_one, List.foldl_append, List.getElem?_eq_getElem h, getD_el h]
 rfl
theorem kB_t {p : Piece} {out : List Piece} {k : Nat} (h : yB p (out.getD k default) = true) : kB p out (k + 1) = kB p out k := by
 rw [kB, if_pos h]
theorem kB_f {p : Piece} {out : List Piece} {k : Nat} (h : k = 0 ∨ yB p (out.getD (k - 1) default) = false) : kB p out k = k := by
 cases k with
 | zero => rfl
 | succ k =>
   rcases h with h | h
   · omega
   rw [kB, if_neg (by rw [show k + 1 - 1 = k from rfl] at h; rw [h]; decide)]
/-- The list behind the copy: everything from k on lies one place further. -/
def cpL (out : List Piece) (k : Nat) : List Piece := out.take k ++ (out ++ [Z0]).getD k default :: out.drop k
theorem cpL_splice {out : List Piece} {k : Nat} (h : k ≤ out.length) : yJ ((out ++ [Z0]).map Piece.av) (k + 1) (((out.drop k ++ [Z0]).map Piece.av).take (out.length - k)) = (cpL out k).map Piece.av := by
 have e1 : ((out.drop k ++ [Z0]).map Piece.av).take (out.length - k) = (out.drop k).map Piece.av := by
   rw [← List.map_take, List.take_append_of_le_length (by simp), List.take_of_length_le (by simp)]
 have hk : k < (out ++ [Z0]).length := by simp; omega
 have e2 : ((out ++ [Z0]).map Piece.av).take (k + 1) = (out.take k ++ [(out ++ [Z0]).getD k default]).map Piece.av := by
   rw [← List.map_take, List.take_add_one, List.getElem?_eq_getElem hk, getD_el hk, List.take_append_of_le_length h]
   rfl
 have e3 : ((out ++ [Z0]).map Piece.av).drop (k + 1 + ((out.drop k).map Piece.av).length) = [] := List.drop_eq_nil_of_le (by simp; omega)
 rw [e1]
 unfold yJ cpL
 rw [e3, e2, List.append_nil, ← List.map_append, List.append_assoc]
 rfl
theorem cpL_set {out : List Piece} {p : Piece} (h : kB p out out.length ≤ out.length) : ((cpL out (kB p out out.length)).map Piece.av).set (kB p out out.length) p.av = (insB out p).map Piece.av := by
 unfold cpL insB
 rw [← List.map_set]
 congr 1
 have hl : (out.take (kB p out out.length)).length = kB p out out.length := by rw [List.length_take]; omega
 rw [List.set_append_right _ _ (by omega), hl, Nat.sub_self]
 rfl
theorem av_ldcP (l : List Piece) : (l.map Piece.av).map (·.map ldc) = l.map Piece.av := by
 rw [List.map_map]
 exact List.map_congr_left fun _ _ => rfl
theorem src_drop {out : List Piece} {k : Nat} (h : k ≤ out.length) : ((((out ++ [Z0]).map Piece.av).drop k).take (out.length + 1 - k)).map (·.map ldc) = (out.drop k ++ [Z0]).map Piece.av := by
 rw [← List.map_drop, ← List.map_take, av_ldcP, List.drop_append_of_le_length h, List.take_of_length_le (by simp; omega)]
theorem C52 {l : List Piece} (hl : l.length ≤ 1000000) : Fn Tryz.prog 52 [] [.ro (l.map Piece.av)] [.ro ((ordV l).map Piece.av)] [] := by
 refine Spec.body Tryz.func52 rfl Tryz.ntmps52 (by simp) rfl ?_; intro S0 own0 v0 w0
 refine zA fun K hK => zB ?_
 refine zF (zD rfl rfl) ?_
 refine zE (hK _ ?_); clear hK K; try simp only [nA, Nat.reduceBEq, Nat.reduceEqDiff, ↓reduceIte, Nat.reduceAdd, Nat.reduceSub]
 refine zA fun K hK => zB ?_
 refine zF (zD rfl rfl) ?_
 refine zE (hK _ ?_); clear hK K; try simp only [nA, Nat.reduceBEq, Nat.reduceEqDiff, ↓reduceIte, Nat.reduceAdd, Nat.reduceSub]
 refine zA fun K hK => ?_
 refine zA fun K hK => zB ?_
 refine zF (zD rfl rfl) ?_
 refine zE (hK _ ?_); clear hK K; try simp only [nA, Nat.reduceBEq, Nat.reduceEqDiff, ↓reduceIte, Nat.reduceAdd, Nat.reduceSub]
 refine zN ?_
 refine AW.gh (Gh.nil (e := 35) 3 (bl rfl) rfl yR) ?_; (simp only [nA, Nat.reduceBEq, Nat.reduceEqDiff, ↓reduceIte]); refine yC (fun (q : Nat × Nat × Nat) => [(0, .ro (l.map Piece.av)), (3, .sl 0 q.2.1 0 q.1), (4, .v (.int .i64 (q.1 : Nat)))]) (fun q => ⟨[(q.2.1, .own 35 ((ordT l q.1).map Piece.av))], q.2.2⟩) (fun q => q.1 ≤ l.length) (fun q => l.length - q.1) (0, _, _) (by simp) ⟨rfl, rfl, rfl, trivial⟩ rfl ?_; rintro ⟨i, v, ep⟩ ρ hi; dsimp only at hi ⊢; simp only [updL]
 refine zA fun K hK => ?_
 refine zA fun K hK => zB ?_
 refine zF (zC rfl rfl) ?_
 refine zF (zC rfl rfl) ?_
 refine zF (zX (n := l.length) rfl rfl Tryz.underlying31 (.inr (.inl ⟨_, rfl, by simp⟩))) ?_
 refine zF (yP rfl rfl rfl) ?_
 refine zE (hK _ ?_); clear hK K; simp only [nA, ↓reduceIte]
 refine zL rfl rfl rfl (fun hc => ?_) (fun hc => ?_)
 ·
  have hc1 := hc; have hlt : i < l.length := (by simpa using hc1); have hol := ordT_len l hi; have hos := ordT_succ hlt
  refine zM ?_
  refine hK _ ?_; clear hK K
  refine zA fun K hK => zN ?_
  refine zA fun K hK => zB ?_
  refine zF (zC rfl rfl) ?_
  refine zF (op_len_sl rfl rfl rfl Tryz.underlying31) ?_
  refine zF (zD rfl rfl) ?_
  refine zE (hK _ ?_); clear hK K; simp only [nA, ↓reduceIte]
  refine zA fun K hK => zN ?_
  refine yC (fun (k : Nat) => [(0, .ro (l.map Piece.av)), (3, .sl 0 v 0 i), (4, .v (.int .i64 (i : Nat))), (5, .v (.int .i64 (k : Nat)))]) (fun _ => ⟨[(v, .own 35 ((ordT l i).map Piece.av))], _⟩) (fun k => k ≤ i ∧ kB (l.getD i default) (ordT l i) k = kB (l.getD i default) (ordT l i) (ordT l i).length) (fun k => k) i ⟨Nat.le_refl _, by rw [hol]⟩ ⟨rfl, rfl, rfl, rfl, trivial⟩ rfl ?_; intro k ρ hk; simp only [updL]
  refine zA fun K hK => ?_
  refine zA fun K hK => ?_
  refine AW.quiet mix (by kernel_rfl) ?_
  refine zQ (zC rfl rfl) ?_
  refine zQ (op_gtr rfl rfl rfl) ?_
  refine zQ (zC rfl rfl) ?_
  refine' yK [_, _, _, _, _, _, _, _, _, _] [17,18,19,20,21,22,23,24,25,26] rfl rfl rfl rfl rfl rfl rfl rfl rfl rfl rfl rfl (fun hb => ?_) ?_; rotate_left
  ·
   (try simp only [z7] at hb)
   have hk0 : 0 < k := (by simpa using hb); have hk1 : k - 1 < i := (by omega); refine zQ (zC rfl rfl) ?_; simp only [nA, ↓reduceIte]
   refine zQ (zC rfl rfl) ?_
   refine zQ (zW i rfl (.inl rfl) rfl Tryz.underlying31 rfl (yF hlt) (by exact yR) (bl rfl)) ?_
   refine aqR (zY rfl rfl ag35 yR (bl rfl) (by decide) rfl) ?_
   refine zQ (zC rfl rfl) ?_
   refine zQ (zC rfl rfl) ?_
   refine zQ (op_subi rfl rfl rfl (by omega)) ?_
   refine zQ (op_ia_sl (k - 1) 5 rfl rfl rfl rfl Tryz.underlying31 (by omega) hk1 (by exact yR) (Nat.zero_add _)) ?_
   refine aqR (zK rfl rfl rfl (yF (f := Piece.av) (xs := (ordT l i)) (m := k - 1) (by omega)) ag35 yR (bl rfl) rfl) ?_
   refine aqQ (zT (b := true) rfl en75 (C75 (a := (l.getD i default)) (b := (ordT l i).getD (k - 1) default)) (RL.cons (by exact View.same rfl) (RL.cons (by exact View.same rfl) (RL.nil))) rfl) ?_; simp only [nA, ↓reduceIte]
   (refine yL rfl rfl rfl ?_; repeat (first | exact fun _ _ => rfl | refine zU rfl ?_))
  simp only [nA, ↓reduceIte]
  refine yN (hK _ ?_); clear hK K
  refine zL rfl rfl rfl (fun hc => ?_) (fun hc => ?_)
  ·
   have hc2 := hc; obtain ⟨q, rfl⟩ : ∃ q, k = q + 1 := ⟨k - 1, by have h : 0 < k ∧ _ := (by simpa using hc2); omega⟩; have hb2 : yB (l.getD i default) ((ordT l i).getD q default) = true := (by have h : 0 < q + 1 ∧ _ := (by simpa using hc2); exact h.2)
   refine zM ?_
   refine hK _ ?_; clear hK K
   refine zN ?_
   refine zB ?_
   refine zF (zC rfl rfl) ?_
   refine zF (op_subi rfl rfl rfl (by omega)) ?_
   refine zF (zD rfl rfl) ?_
   refine zE ?_
   (try simp only [zI, zJ, Nat.reduceEqDiff, ↓reduceIte])
   refine ⟨q, ⟨by omega, by rw [← hk.2, kB_t hb2]⟩, by omega, ⟨rfl, rfl, rfl, (by show AV.v (Value.int .i64 (((q + 1 : Nat) : Int) - 1)) = AV.v (Value.int .i64 (q : Nat)); congr 2; omega), trivial⟩, (by trivial), (by trivial)⟩
  have hc2 := hc; have hkf : kB (l.getD i default) (ordT l i) k = k := kB_f (by rcases Nat.eq_zero_or_pos k with h | h; exact .inl h; refine .inr ?_; (have h2 := hc2; rw [show decide ((k : Int) > 0) = true from decide_eq_true (by omega), Bool.true_and] at h2; exact h2)); have hkk : k = kB (l.getD i default) (ordT l i) (ordT l i).length := (by omega); have hkl : k ≤ (ordT l i).length := (by omega)
  refine yE ?_; try simp only [zI, zJ, Nat.reduceEqDiff, ↓reduceIte]
  clear hK K
  refine hK _ ?_; clear hK K
  refine zA fun K hK => zB ?_
  refine zF (zC rfl rfl) ?_
  refine zF (op_build2 (xs := [.v (.int .i64 0), .v (.int .i64 0), .v (.int .i64 0), .v (.int .i64 0), .v (.int .i64 0)]) rfl pl35 ze35 [] rfl rfl rfl) ?_
  refine yD (OpJ.frz (zV rfl [(0, Z0.av)] [Z0.av] Tryz.underlying31 ze35 rfl (by simp) rfl (by simp) rfl (bl rfl) (by simp [maxLen])) (av_flatP [Z0]) rfl) ?_; simp only [nA, Nat.reduceEqDiff, ↓reduceIte]
  refine yD (op_app (r := 0) (rows := [Z0.av]) rfl rfl rfl rfl (by simp; omega) .ro Tryz.underlying31 ze35 (by decide) (av_len [Z0]) (by simp; omega) (by decide) (es' := ((ordT l i) ++ [Z0]).map Piece.av) (by simp) (n := i + 1) (by simp; omega)) ?_; try simp only [nA, Nat.reduceBEq, Nat.reduceEqDiff, ↓reduceIte, Nat.reduceAdd, Nat.reduceSub]
  refine zF (zD rfl rfl) ?_
  refine zE (hK _ ?_); clear hK K; simp only [nA]
  refine zA fun K hK => ?_
  refine AW.quiet_tail 7 mix (by kernel_rfl) rfl rfl ?_
  refine zQ (zC rfl rfl) ?_
  refine zQ (zC rfl rfl) ?_
  refine zQ (zR rfl rfl rfl (by omega)) ?_
  refine zQ (op_slice_sl (k + 1) (i + 1) rfl rfl rfl (by exact ⟨_, rfl⟩) (by exact rfl) (by omega) (by omega) Tryz.underlying31 (off' := k + 1) (len' := i - k) (by omega) (by omega)) ?_; simp only [nA, Nat.reduceEqDiff, ↓reduceIte]
  refine zQ (zC rfl rfl) ?_
  refine zQ (zC rfl rfl) ?_
  refine zQ (op_slice_sl k (i + 1) rfl rfl rfl (by exact ⟨_, rfl⟩) (by exact rfl) (by omega) (by omega) Tryz.underlying31 (off' := k) (len' := i + 1 - k) (by omega) rfl) ?_; simp only [nA, Nat.reduceEqDiff, ↓reduceIte]
  refine yN ?_
  refine yD (op_copy (rows := ((ordT l i).drop k ++ [Z0]).map Piece.av) (m := i - k) rfl rfl rfl rfl (.sl rfl (by have := src_drop hkl; rwa [hol] at this)) Tryz.underlying31 yR (av_len _) (by simp; omega) (by simp; omega) (es' := (cpL (ordT l i) k).map Piece.av) (by have := cpL_splice hkl; rwa [hol] at this)) ?_; try simp only [nA, Nat.reduceBEq, Nat.reduceEqDiff, ↓reduceIte, Nat.reduceAdd, Nat.reduceSub]
  refine zE (hK _ ?_); clear hK K
  refine zB ?_
  refine zF (zC rfl rfl) ?_
  refine zF (zC rfl rfl) ?_
  refine zF (zC rfl rfl) ?_
  refine zF (zC rfl rfl) ?_
  refine zF (zW i rfl (.inl rfl) rfl Tryz.underlying31 rfl (yF hlt) (by exact yR) (bl rfl)) ?_
  refine awR (zY rfl rfl ag35 yR (bl rfl) (by decide) rfl) ?_
  refine zF (op_ia_sl k 5 rfl rfl rfl rfl Tryz.underlying31 rfl (by omega) (by exact yR) (Nat.zero_add _)) ?_
  refine yD (z8 rfl rfl rfl rfl (yF (f := Piece.av) (xs := cpL (ordT l i) k) (m := k) (by unfold cpL; simp; omega)) rfl yR rfl (bl rfl) (es' := (ordT l (i + 1)).map Piece.av) (by rw [hos, ← cpL_set (kB_le _ _ _), ← hkk]; rfl)) ?_; simp only [nA, Nat.reduceEqDiff, ↓reduceIte]
  refine zE ?_
  (try simp only [zI, zJ, Nat.reduceEqDiff, ↓reduceIte])
  refine hK _ ?_; clear hK K
  refine zB ?_
  refine zF (zC rfl rfl) ?_
  refine zF (zR rfl rfl rfl (by omega)) ?_
  refine zF (zD rfl rfl) ?_
  refine AWL.gh (Gh.drop 1) ?_; simp only [nA, Nat.reduceEqDiff, ↓reduceIte]
  refine zE ?_
  refine ⟨(i + 1, _, _), by dsimp only; omega, by dsimp only; omega, ⟨rfl, rfl, rfl, trivial⟩, (by rfl), (by rfl)⟩
 have hc1 := hc; obtain rfl : i = l.length := (by have : ¬ i < l.length := (by simpa using hc1); omega)
 refine yE ?_; try simp only [zI, zJ, Nat.reduceEqDiff, ↓reduceIte]
 clear hK K
 refine hK _ ?_; clear hK K
 refine zA fun K hK => zB ?_
 refine zF (zC rfl rfl) ?_
 refine zF (zD rfl rfl) ?_
 refine zE (hK _ ?_); clear hK K; simp only [nA, ↓reduceIte]
 refine AW.gh (Gh.freeze 2 (bl rfl) rfl rfl (av_flatP _) (es' := (ordT l l.length).map Piece.av) (List.take_of_length_le (by rw [List.length_map, ordT_len l (Nat.le_refl _)]; exact Nat.le_refl _))) ?_; try simp only [nA, Nat.reduceBEq, Nat.reduceEqDiff, ↓reduceIte, Nat.reduceAdd, Nat.reduceSub]
 refine zO ?_; (try simp only [zI, zJ, Nat.reduceEqDiff, ↓reduceIte]); rw [show ordV l = ordT l l.length by unfold ordT; rw [List.take_length]; rfl]; exact zS rfl (.tmp (bl rfl) rfl rfl .nil)
section
variable {C : Cx} {o : Oper} {ev : Operand → AV} {T : Sl}
/-- A row of one's own may be read where its block may be. -/
theorem Rep.own_ro {P : Program} {S : Nat → Prop} {w : World} {bs : List Nat} {u : Value} {e : TypeId} {es : List (List AV)} (h : Rep P S w bs u (.own e es)) (hf : ∀ r ∈ es, ∀ c ∈ r, flatA c = true) : Rep P (fun k => S k ∨ k ∈ bs) w [] u (.ro es) := by
 obtain ⟨us, sz, bss, hbs, hi, hsz, hown, hul, hbl, hc⟩ := h.own_inv
 rcases hown.2 with ⟨rfl, h0⟩ | ⟨g, cap, cur, rfl, -, hg, h1, h2, h3, h4⟩
 · obtain rfl := List.eq_nil_of_length_eq_zero h0
   exact rep_ro_nil
 refine Rep.ro (us := us) h1 h2 hsz (fun hn => ⟨g, 0, rfl, .inr (by rw [hbs]; simp [Value.ownBlock]), fun j u hu => ?_⟩) hul fun i u x q1 q2 => ?_
 · rw [Nat.zero_add]
   simp only [World.cell?, hg]
   have hj : j < es.length * sz := by rw [← hown.1]; exact (List.getElem?_eq_some_iff.1 hu).1
   have : cur.toList[j]? = some u := by rw [← hu, ← h4, List.getElem?_take_of_lt hj]
   simpa using this
 have hi' := (List.getElem?_eq_some_iff.1 q1).1
 have h5 := hc i u x (bss[i]'(by omega)) q1 q2 (List.getElem?_eq_getElem _)
 have hx : flatA x = true := by
   obtain ⟨r, hr, hcr⟩ := List.mem_flatten.1 (List.mem_of_getElem? q2)
   exact hf r hr x hcr
 have h6 := h5.flat hx
 rw [h6] at h5
 exact h5.mono fun _ _ h => .inl h
/-- A box that holds a named slice's address: what it is while the slice is lent for reading. -/
theorem rop_up {S : Nat → Prop} {vals : List Value} {bss : List (List Nat)} {w : World} (hm : Mem C T S vals bss w) {r k : Nat} {u : Value} {e : TypeId} {es : List (List AV)} (hT : T.slots[r]? = some (k, .nm u e es)) (hf : ∀ r ∈ es, ∀ c ∈ r, flatA c = true)
   {p : Value} (h : Rep C.P S w [] p (.rop [.v u])) : Rep C.P (lent true S bss) w [] p (.rop [.ro es]) := by
 obtain ⟨v, bs, hv, hb, hrep⟩ := hm.slot hT
 have hnm : v = u ∧ Rep C.P S w bs u (.own e es) := by
   cases hrep with
   | nm h => exact ⟨rfl, h⟩
 have hr := (hnm.2.own_ro hf).mono (S' := lent true S bss) fun q _ h => h.elim .inl fun h => .inr ⟨rfl, r, bs, hb, h⟩
 generalize hcs : [AV.v u] = cs at h
 generalize hbs : ([] : List Nat) = bs0 at h
 cases h with
 | @rop A us _ hr0 hl hc =>
   subst hcs
   obtain ⟨u1, rfl⟩ : ∃ u1, us = [u1] := by
     match us, hl with
     | [u1], _ => exact ⟨u1, rfl⟩
   have h1 := (hc 0 u1 (.v u) rfl rfl).v_inv.1
   subst h1
   refine Rep.rop (us := [u1]) (hr0.mono fun _ _ h => .inl h) rfl fun i x y q1 q2 => ?_
   cases i with
   | zero => simp at q1 q2; subst q1; subst q2; exact hr
   | succ i => simp at q1
/-- A closure that captures a box with a named slice's address, called to read. -/
theorem op_lessQ {f : FuncId} {p : Operand} {args : Array Operand} {ts : Array TypeId} {xs : List AV} {y : Value} {r k : Nat} {u : Value} {e : TypeId} {es : List (List AV)} (ho : o.op = .call { callee := .value p, args := args, argTypes := ts }) (hp : ev p = .clo f [.rop [.v u]])
   (hT : T.slots[r]? = some (k, .nm u e es)) (hfl : ∀ r ∈ es, ∀ c ∈ r, flatA c = true) (hf : zZ C.P f) (hsp : Fn C.P f [] (xs ++ [.rop [.ro es]]) [.v y] []) (hv : RL (View T true) (args.toList.map ev) xs) (hx : y.oneCell' = true) : OpQ C o ev T (.v y) := by
 intro a w S vals bss hm h
 refine ⟨y, fun w' hk => ?_, TmpOK.v_ hx⟩
 have hp1 := h p (by simp [ho, Op.operands, Call.operands])
 rw [hp] at hp1
 obtain ⟨us, hfv, hul, hur⟩ := (show Rep C.P S w [] _ (.clo f [.rop [.v u]]) from hp1).clo_inv
 have hargs : ∀ y ∈ args, TmpOK C.P S w' T vals (a.eval y) (ev y) := fun y hy => TmpOK.follows (Follows.kept hk (fun _ _ _ => trivial) fun _ h => h) (h y (by simp [ho, Op.operands, Call.operands]; exact .inr hy))
 have hcame := came0 (hm.grow hk) hv hargs
 have hcaps : RL (AggOK C.P (lent true S bss) w' (insT []) []) us [.rop [.ro es]] := ⟨hul, fun i u1 x h1 h2 => by
   cases i with
   | zero =>
     simp at h2
     subst h2
     exact (rop_up (hm.grow hk) hT hfl ((hur 0 u1 (.rop [.v u]) h1 rfl).kept hk (fun _ _ _ => trivial) (by simp))).aggOK
   | succ i => simp at h2⟩
 have hc := hsp w' (lent true S bss) [] [] (args.toList.map a.eval ++ us) { hcame with args := hcame.args.append hcaps }
 have hrun : (execOp a.eval o).run C.P w' = .ok (.enter f (args.toList.map a.eval ++ us).toArray) w' := by
   have e1 : (args.map a.eval ++ us.toArray) = (args.toList.map a.eval ++ us).toArray := by apply Array.toList_inj.1; simp
   simp only [execOp, ho, resolve, hfv, Deferred.ofValue, Sem.run_bind, Sem.run_pure, Result.andThen_ok, invoke]
   rw [← e1]
   simpa using hf _ w'
 unfold Oper.quietAt
 rw [hrun]
 refine ⟨rfl, hc.mono ?_⟩
 rintro e w'' ⟨us, ys', outs, bsr, bss', rfl, went, rfl, rfl⟩
 have hk2 : Kept (fun _ => True) w' w'' := went.kept.mono fun k _ _ ⟨r, bs, h, _⟩ => by simp at h
 refine ⟨?_, hk.trans hk2⟩
 match us, went.nu with
 | [u], _ =>
   have hr := went.res 0 u (.v y) (bsr[0]'(by rw [went.nr]; simp)) rfl rfl (List.getElem?_eq_getElem _)
   rcases hr with h | ⟨_, h⟩
   · rw [retV, h.v_inv.1]
   rw [retV, (show Rep C.P _ w'' [] u (.v y) from h).v_inv.1]
end
section
variable {C : Cx} {T : Sl} {S : Nat → Prop} {vals : List Value} {bss : List (List Nat)} {w : World}
variable {o : Oper} {ev : Operand → AV}
/-- A call to which a named slot is lent for writing. -/
theorem op_callN {f : FuncId} {args : Array Operand} {ts : Array TypeId} {r k : Nat} {x0 x1 : AV} {xs ys : List AV} (ho : o.op = .call { callee := .value (.func f), args := args, argTypes := ts }) (hf : zZ C.P f) (hsp : Fn C.P f [x0] xs ys [x1]) (hs : T.slots[r]? = some (k, x0)) (hv : RL (View1 T r k) (args.toList.map ev) xs)
   (hx1 : ∃ u0 e es es', x0 = .nm u0 e es ∧ x1 = .nm u0 e es') (hn : ys.all (cloA 1) = true) {x : AV} {T' : Sl} (hx : packR (unp (ys.map (renA r k)) ⟨T.slots.set r (k, x1), T.ep⟩).1 = x) (hT : (unp (ys.map (renA r k)) ⟨T.slots.set r (k, x1), T.ep⟩).2 = T') : OpJ C o ev T x T' := by
 intro a w S vals bss hm h K hK Q
 have hrl : r < T.slots.length := (List.getElem?_eq_some_iff.1 hs).1
 have hargs : ∀ y ∈ args, TmpOK C.P S w T vals (a.eval y) (ev y) := fun y hy => h y (by simp [ho, Op.operands, Call.operands]; exact .inr hy)
 obtain ⟨v, bs, hvr, hbr, hrep⟩ := hm.slot hs
 have hcame : Came C.P [x0] xs w S [v] [bs] (args.toList.map a.eval) := by
   refine ⟨hm.lt, rfl, rfl, fun q x u b h1 h2 h3 => ?_, ⟨fun q b h1 => ?_, fun q q' b b' hne h1 h2 => ?_⟩, fun b ⟨q, b1, h1, h2⟩ => ?_, by have := hv.1; simpa using this, fun i u x h1 h2 => ?_⟩
   · cases q with
     | zero => simp at h1 h2 h3; subst h1; subst h2; subst h3; exact hrep
     | succ q => simp at h1
   · cases q with
     | zero => simp at h1; subst h1; exact hm.nodup r _ hbr
     | succ q => simp at h1
   · cases q with
     | zero => cases q' with
       | zero => exact absurd rfl hne
       | succ q' => simp at h2
     | succ q => simp at h1
   · cases q with
     | zero => simp at h1; subst h1; exact hm.apart r _ hbr b h2
     | succ q => simp at h1
   rw [List.getElem?_map] at h1
   cases hq : args.toList[i]? with
   | none => rw [hq] at h1; cases h1
   | some y =>
     rw [hq] at h1
     simp only [Option.map_some, Option.some.injEq] at h1
     subst h1
     exact view1_ok hm hs hvr (hv.2 i (ev y) x (by rw [List.getElem?_map, hq]; rfl) h2) (hargs y (Array.mem_toList_iff.1 (List.mem_of_getElem? hq)))
 have hc := hsp w S [v] [bs] _ hcame
 have hrun : (execOp a.eval o).run C.P w = .ok (.enter f (args.toList.map a.eval).toArray) w := by
   have e1 : (args.map a.eval) = (args.toList.map a.eval).toArray := by apply Array.toList_inj.1; simp
   simp only [execOp, ho, resolve, Act.eval, Deferred.ofValue, Sem.run_bind, Sem.run_pure, Result.andThen_ok, invoke]
   rw [← e1]
   simpa using hf _ w
 unfold Oper.wp
 rw [hrun, Oper.upon_enter]
 refine hc.mono ?_
 rintro e w' ⟨us, ys', outs, bsr, bss', rfl, went, rfl, rfl⟩
 simp only
 obtain ⟨bs', rfl⟩ : ∃ b, bss' = [b] := by
   match bss', went.nb with
   | [b], _ => exact ⟨b, rfl⟩
 have hin1 : ∀ (b : List Nat) (q : Nat), InL [b] q ↔ q ∈ b := fun b q => by
   constructor
   · rintro ⟨i, b1, h1, h2⟩
     cases i with
     | zero => simp at h1; subst h1; exact h2
     | succ i => simp at h1
   intro h; exact ⟨0, b, rfl, h⟩
 have hk : Kept (fun q => q ∉ bs) w w' := went.kept.mono fun q _ h h' => h ((hin1 _ _).1 h')
 have hinR : ∀ q, InL bsr q → InL (bsr ++ [bs']) q := fun q ⟨i, b, h1, h2⟩ => ⟨i, b, by rw [List.getElem?_append_left (List.getElem?_eq_some_iff.1 h1).1]; exact h1, h2⟩
 have hinS : ∀ q, q ∈ bs' → InL (bsr ++ [bs']) q := fun q h => ⟨bsr.length, bs', by simp, h⟩
 have hown' := went.own
 have hownR : Own2 bsr := ⟨fun i b h => hown'.nodup i b (by rw [List.getElem?_append_left (List.getElem?_eq_some_iff.1 h).1]; exact h), fun i j b b' hne h1 h2 => hown'.disj i j b b' hne (by rw [List.getElem?_append_left (List.getElem?_eq_some_iff.1 h1).1]; exact h1) (by rw [List.getElem?_append_left (List.getElem?_eq_some_iff.1 h2).1]; exact h2)⟩
 have hmine : ∀ q, InL (bsr ++ [bs']) q → w.heap.size ≤ q ∨ q ∈ bs := fun q h => (went.mine q h).imp id (hin1 _ _).1
 obtain ⟨u0, e0, es, es', rfl, rfl⟩ := hx1
 obtain ⟨hm2, hf2⟩ := hm.set2 (S2 := After S w w' [bs] (bsr ++ [bs'])) (x' := .nm u0 e0 es') (bs' := bs') hs hvr hbr hk (fun q h => .inl h) (fun q h => h.imp id fun ⟨h1, h2, h3⟩ => ⟨h1.imp id (hin1 _ _).1, h2, fun h => h3 (hinS q h)⟩)
   (went.rep 0 _ v bs' rfl rfl rfl) (hown'.nodup bsr.length bs' (by simp)) (fun q h => (hmine q (hinS q h)).symm) (fun e es2 h => by cases h) (fun b ks h => by cases h)
 have hs2 : (T.slots.set r (k, AV.nm u0 e0 es'))[r]? = some (k, .nm u0 e0 es') := by simp [hrl]
 have hcl : ∀ (i : Nat) (y : AV), ys'[i]? = some y → cloA 1 y = true := fun i y h => List.all_eq_true.1 hn y (List.mem_of_getElem? h)
 obtain ⟨vals', bss'', g1, g2, g3⟩ := unp_ok2 (ys'.map (renA r k)) us bsr _ vals _ hm2 (by simp [went.nu]) (by simp [went.nr]) (fun i u y b q1 q2 q3 => by
   rw [List.getElem?_map] at q2
   cases hq : ys'[i]? with
   | none => rw [hq] at q2; cases q2
   | some y0 =>
     rw [hq] at q2
     simp only [Option.map_some, Option.some.injEq] at q2
     subst q2
     rcases went.res i u y0 b q1 hq q3 with h | ⟨h1, h2⟩
     · exact .inl (h.ren r k)
     · exact .inr ⟨h1, renA_ok (T' := ⟨T.slots.set r (k, .nm u0 e0 es'), T.ep⟩) hs2 hvr (hm.ver r k _ hs) h2 (hcl i y0 hq)⟩) hownR (fun q hq => by
     refine ⟨fun ⟨i, b, h1, h2⟩ => ?_, fun h => ?_, ?_⟩
     · rw [getElem?_set_ _ _ _ _ (by rw [hm.nb]; exact hrl)] at h1
       obtain ⟨j, bj, h3, h4⟩ := hq
       split at h1
       · injection h1 with h1; subst h1
         refine hown'.disj j bsr.length bj bs' ?_ (by rw [List.getElem?_append_left (List.getElem?_eq_some_iff.1 h3).1]; exact h3) (by simp) q h4 h2
         have := (List.getElem?_eq_some_iff.1 h3).1; omega
       rename_i hne
       rcases hmine q (hinR q ⟨j, bj, h3, h4⟩) with h | h
       · have := hm.blt h1 q h2; omega
       exact hm.disj r i bs b hne hbr h1 q h h2
     · rcases h with h | ⟨_, _, h⟩
       · rcases hmine q (hinR q hq) with h' | h'
         · have := hm.lt q h; omega
         exact hm.apart r bs hbr q h' h
       exact h (hinR q hq)
     rcases hmine q (hinR q hq) with h | h
     · have := hm.kept.size; exact .inr (by omega)
     exact hm.mine r bs hbr q h)
 subst hT
 refine hK _ _ _ _ _ g1 (fun u x h => g2 u x (hf2 u x h)) ?_
 subst hx
 match us, hz : (unp (ys'.map (renA r k)) ⟨T.slots.set r (k, .nm u0 e0 es'), T.ep⟩).1, g3 with
 | [], zs, rl =>
   have : zs = [] := List.eq_nil_of_length_eq_zero rl.1.symm
   subst this
   exact ⟨#[], rfl, RL.nil⟩
 | [u], zs, rl =>
   obtain ⟨z, rfl⟩ : ∃ z, zs = [z] := by
     match zs, rl.1 with
     | [z], _ => exact ⟨z, rfl⟩
   have := rl.2 0 u z rfl rfl
   cases z with
   | tup cs => exact absurd rfl (Rep.plain (show Rep _ _ _ _ _ (.tup cs) from this) cs).2
   | _ => exact this
 | u :: u2 :: us, zs, rl =>
   obtain ⟨z1, z2, zs', rfl⟩ : ∃ z1 z2 zs', zs = z1 :: z2 :: zs' := by
     match zs, rl.1 with
     | z1 :: z2 :: zs', _ => exact ⟨z1, z2, zs', rfl⟩
   exact ⟨_, rfl, by simpa using rl⟩
end
section
variable {C : Cx} {T : Sl} {S : Nat → Prop} {vals : List Value} {bss : List (List Nat)} {w : World} {o : Oper} {ev : Operand → AV}
/-- A call, its arguments having come in whatever way. -/
theorem op_callC {f : FuncId} {args : Array Operand} {ts : Array TypeId} {b : Bool} {xs ys : List AV} (ho : o.op = .call { callee := .value (.func f), args := args, argTypes := ts }) (hf : zZ C.P f) (hsp : Fn C.P f [] xs ys []) (hv : ∀ (a : Act) w S vals bss, Mem C T S vals bss w → (∀ y ∈ args, TmpOK C.P S w T vals (a.eval y) (ev y)) → Came C.P [] xs w (lent b S bss) [] [] (args.toList.map a.eval))
   (hn : ys.all nrefA = true) (hsol : b = true → ∀ y ∈ ys, SolidA C.P y) {x : AV} {T' : Sl} (hx : packR (unp ys T).1 = x) (hT : (unp ys T).2 = T') : OpJ C o ev T x T' := by
 intro a w S vals bss hm h K hK Q
 have hargs : ∀ y ∈ args, TmpOK C.P S w T vals (a.eval y) (ev y) := fun y hy => h y (by simp [ho, Op.operands, Call.operands]; exact .inr hy)
 have hc := hsp w (lent b S bss) [] [] _ (hv a w S vals bss hm hargs)
 have hrun : (execOp a.eval o).run C.P w = .ok (.enter f (args.toList.map a.eval).toArray) w := by
   have e1 : (args.map a.eval) = (args.toList.map a.eval).toArray := by apply Array.toList_inj.1; simp
   simp only [execOp, ho, resolve, Act.eval, Deferred.ofValue, Sem.run_bind, Sem.run_pure, Result.andThen_ok, invoke]
   rw [← e1]
   simpa using hf _ w
 unfold Oper.wp
 rw [hrun, Oper.upon_enter]
 refine hc.mono ?_
 rintro e w' ⟨us, ys', outs, bsr, bss', rfl, went, rfl, rfl⟩
 simp only
 have hb0 : bss' = [] := List.eq_nil_of_length_eq_zero went.nb
 subst hb0
 have hk : Kept (fun _ => True) w w' := went.kept.mono fun k _ _ ⟨r, bs, h, _⟩ => by simp at h
 have hown : Own2 bsr := by have := went.own; rwa [List.append_nil] at this
 have hmine : ∀ q, InL bsr q → w.heap.size ≤ q := fun q hq => by
   have := went.mine q (by rw [List.append_nil]; exact hq)
   exact this.resolve_right fun ⟨r, bs, h, _⟩ => by simp at h
 have hS2 : ∀ k, S k → S k ∨ (w.heap.size ≤ k ∧ k < w'.heap.size ∧ ¬ InL bsr k) := fun k h => .inl h
 have hm1 := (hm.grow hk).more (S' := fun k => S k ∨ (w.heap.size ≤ k ∧ k < w'.heap.size ∧ ¬ InL bsr k)) hS2 fun k h => by
   rcases h with h | ⟨h1, h2, h3⟩
   · exact .inl h
   refine .inr ⟨.inr (.inr (by have := hm.kept.size; omega)), h2, fun ⟨r, bs, q1, q2⟩ => ?_⟩
   have := hm.blt q1 k q2; omega
 have hf1 : Follows C.P S w T vals (fun k => S k ∨ (w.heap.size ≤ k ∧ k < w'.heap.size ∧ ¬ InL bsr k)) w' T vals := Follows.kept hk (fun _ _ _ => trivial) hS2
 have hAf : ∀ k, After (lent b S bss) w w' [] (bsr ++ []) k → (S k ∨ (w.heap.size ≤ k ∧ k < w'.heap.size ∧ ¬ InL bsr k)) ∨ (b = true ∧ InL bss k) := fun k h => by
   rcases h with h | ⟨h1, h2, h3⟩
   · rcases h with h | h
     · exact .inl (.inl h)
     exact .inr h
   rcases h1 with h1 | ⟨r, bs, h, _⟩
   · rw [List.append_nil] at h3; exact .inl (.inr ⟨h1, h2, h3⟩)
   simp at h
 obtain ⟨vals', bss'', g1, g2, g3⟩ := unp_ok ys' us bsr T vals bss hm1 went.nu went.nr (fun i u y bs q1 q2 q3 => by
   have hny : nrefA y = true := List.all_eq_true.1 hn y (List.mem_of_getElem? q2)
   cases b with
   | false =>
     have hA : ∀ k, After (lent false S bss) w w' [] (bsr ++ []) k → S k ∨ (w.heap.size ≤ k ∧ k < w'.heap.size ∧ ¬ InL bsr k) := fun k h => (hAf k h).resolve_right (by simp)
     rcases went.res i u y bs q1 q2 q3 with h | ⟨h1, h2⟩
     · exact .inl (h.mono fun k _ => hA k)
     exact .inr ⟨h1, hny, T, vals, h2.nref hny hA⟩
   | true =>
     have hs := hsol rfl y (List.mem_of_getElem? q2)
     rcases went.res i u y bs q1 q2 q3 with h | ⟨h1, h2⟩
     · left
       cases y with
       | agg cs => exact absurd rfl (h.plain cs).1
       | _ => exact hs _ _ _ _ _ h
     · refine .inr ⟨h1, hny, T, vals, ?_⟩
       cases y with
       | any => trivial
       | agg cs =>
         obtain ⟨us', e, r⟩ := h2
         simp only [nrefA, List.all_eq_true] at hny
         refine ⟨us', e, r.1, fun i u x hu hx => ?_⟩
         have h3 := r.2 i u x hu hx
         have h4 := hny x (List.mem_of_getElem? hx)
         have h5 := hs x (List.mem_of_getElem? hx)
         cases x with
         | sl => cases h4
         | ptr => cases h4
         | mp => cases h4
         | nm => exact h3
         | byt => exact h3
         | om => exact h3
         | _ => exact h5 _ _ _ _ _ h3
       | sl => cases hny
       | ptr => cases hny
       | mp => cases hny
       | tup => cases hny
       | nm => exact h2
       | byt => exact h2
       | om => exact h2
       | _ => simp only [AggOK] at h2 ⊢; exact hs _ _ _ _ _ h2) hown (fun q hq => by
     have hge := hmine q hq
     refine ⟨fun ⟨r, bs, q1, q2⟩ => by have := hm.blt q1 q q2; omega, fun h => ?_, .inr (by have := hm.kept.size; omega)⟩
     rcases h with h | h
     · have := hm.lt q h; omega
     exact h.2.2 hq)
 subst hT
 refine hK _ _ _ _ _ g1 (fun u x h => g2 u x (hf1 u x h)) ?_
 subst hx
 match us, hz : (unp ys' T).1, g3 with
 | [], zs, r =>
   have : zs = [] := List.eq_nil_of_length_eq_zero r.1.symm
   subst this
   exact ⟨#[], rfl, RL.nil⟩
 | [u], zs, r =>
   obtain ⟨z, rfl⟩ : ∃ z, zs = [z] := by
     match zs, r.1 with
     | [z], _ => exact ⟨z, rfl⟩
   exact (r.2 0 u z rfl rfl).tmp
 | u :: u2 :: us, zs, r =>
   obtain ⟨z1, z2, zs', rfl⟩ : ∃ z1 z2 zs', zs = z1 :: z2 :: zs' := by
     match zs, r.1 with
     | z1 :: z2 :: zs', _ => exact ⟨z1, z2, zs', rfl⟩
   exact ⟨_, rfl, by simpa using r⟩
/-- What an argument is seen as while a named slice is lent for reading. -/
inductive ViewN (T : Sl) (r k : Nat) (u : Value) (e : TypeId) (es : List (List AV)) : AV → AV → Prop
 | base {y x} (h : View T true y x) : ViewN T r k u e es y x
 | up {f : FuncId} {c : AV} (hc : nref1 c = true) : ViewN T r k u e es (.agg [.clo f [.rop [.v u]], c]) (.agg [.clo f [.rop [.ro es]], c])
theorem viewN_ok (hm : Mem C T S vals bss w) {r k : Nat} {u : Value} {e : TypeId} {es : List (List AV)} (hT : T.slots[r]? = some (k, .nm u e es)) (hf : ∀ r ∈ es, ∀ c ∈ r, flatA c = true) {y x : AV} (h : ViewN T r k u e es y x) {v : Value} (hv : TmpOK C.P S w T vals v y) : AggOK C.P (lent true S bss) w (insT []) [] v x := by
 cases h with
 | base h => exact view_ok hm h hv
 | @up f c hc =>
   obtain ⟨us, rfl, rl⟩ := (show ∃ us, v = .agg us ∧ RL (RefOK C.P S w T vals) us.toList [.clo f [.rop [.v u]], c] from hv)
   refine ⟨us, rfl, rl.1, fun i z q h1 h2 => ?_⟩
   match i, h2 with
   | 0, h2 =>
     injection h2 with h2
     subst h2
     obtain ⟨cu, rfl, g1, g2⟩ := (show Rep C.P S w [] z (.clo f [.rop [.v u]]) from rl.2 0 z _ h1 rfl).clo_inv
     refine Rep.clo (us := cu) g1 fun j z1 q1 h3 h4 => ?_
     match j, h4 with
     | 0, h4 =>
       injection h4 with h4
       subst h4
       exact rop_up hm hT hf (g2 0 z1 _ h3 rfl)
   | 1, h2 =>
     injection h2 with h2
     subst h2
     exact (rl.2 1 z _ h1 rfl).nref hc fun k h => .inl h
theorem cameN (hm : Mem C T S vals bss w) {r k : Nat} {u : Value} {e : TypeId} {es : List (List AV)} (hT : T.slots[r]? = some (k, .nm u e es)) (hf : ∀ r ∈ es, ∀ c ∈ r, flatA c = true) {args : Array Operand} {a : Act} {xs : List AV} (hv : RL (ViewN T r k u e es) (args.toList.map ev) xs) (ho : ∀ y ∈ args, TmpOK C.P S w T vals (a.eval y) (ev y)) : Came C.P [] xs w (lent true S bss) [] [] (args.toList.map a.eval) := by
 refine ⟨fun k h => ?_, rfl, rfl, by simp, ⟨by simp, by simp⟩, fun b ⟨r, bs, h, _⟩ => by simp at h, by have := hv.1; simpa using this, fun i u x h1 h2 => ?_⟩
 · rcases h with h | ⟨_, r, bs, h1, h2⟩
   · exact hm.lt k h
   exact hm.blt h1 k h2
 rw [List.getElem?_map] at h1
 cases hq : args.toList[i]? with
 | none => rw [hq] at h1; cases h1
 | some y =>
   rw [hq] at h1
   simp only [Option.map_some, Option.some.injEq] at h1
   subst h1
   exact viewN_ok hm hT hf (hv.2 i (ev y) x (by rw [List.getElem?_map, hq]; rfl) h2) (ho y (Array.mem_toList_iff.1 (List.mem_of_getElem? hq)))
/-- A call to which a named slice is lent for reading. -/
theorem op_callRd {f : FuncId} {args : Array Operand} {ts : Array TypeId} {xs ys : List AV} {r k : Nat} {u : Value} {e : TypeId} {es : List (List AV)} (ho : o.op = .call { callee := .value (.func f), args := args, argTypes := ts }) (hf : zZ C.P f) (hsp : Fn C.P f [] xs ys [])
   (hs : T.slots[r]? = some (k, .nm u e es)) (hfl : ∀ r ∈ es, ∀ c ∈ r, flatA c = true) (hv : RL (ViewN T r k u e es) (args.toList.map ev) xs)
   (hn : ys.all nrefA = true) (hsol : ∀ y ∈ ys, SolidA C.P y) {x : AV} {T' : Sl} (hx : packR (unp ys T).1 = x) (hT : (unp ys T).2 = T') : OpJ C o ev T x T' :=
 op_callC (b := true) ho hf hsp (fun a w S vals bss hm h => cameN hm hs hfl hv h) hn (fun _ => hsol) hx hT
end
section
open Go.Sort
variable {α : Type} {enc : α → List Value} {k : Nat}
def rowK (enc : α → List Value) (x : α) : List AV := (enc x).map .v
theorem flat_rowK (l : List α) : (l.map (rowK enc)).flatten = (l.map enc).flatten.map .v := by
 induction l with
 | nil => rfl
 | cons x l ih => simp only [List.map_cons, List.flatten_cons, List.map_append, ih]; rfl
theorem len_flatE (hk : ∀ x, (enc x).length = k) (l : List α) : (l.map enc).flatten.length = l.length * k := by
 induction l with
 | nil => simp
 | cons x l ih => rw [List.map_cons, List.flatten_cons, List.length_append, ih, hk, List.length_cons, Nat.add_mul, Nat.one_mul, Nat.add_comm]
variable [Inhabited α]
theorem get_flatE (hk : ∀ x, (enc x).length = k) : ∀ (l : List α) (t : Nat), t < l.length * k → (l.map enc).flatten[t]? = (enc (l.getD (t / k) default))[t % k]?
 | [], t, h => by simp at h
 | x :: l, t, h => by
   rw [List.map_cons, List.flatten_cons]
   have h0 : 0 < k := Nat.pos_of_ne_zero fun e => by subst e; simp at h
   by_cases ht : t < k
   · rw [List.getElem?_append_left (by rw [hk]; exact ht), Nat.div_eq_of_lt ht, Nat.mod_eq_of_lt ht]; rfl
   rw [List.getElem?_append_right (by rw [hk]; omega), hk, get_flatE hk l (t - k) (by rw [List.length_cons, Nat.add_mul, Nat.one_mul] at h; omega)]
   obtain ⟨s, rfl⟩ : ∃ s, t = s + k := ⟨t - k, by omega⟩
   rw [Nat.add_sub_cancel, Nat.add_div_right _ h0, Nat.add_mod_right]; rfl
theorem flatK_list (hk : ∀ x, (enc x).length = k) (l : List α) : (flatK enc k l.toArray).toList = (l.map enc).flatten := by
 apply List.ext_getElem?
 intro t
 by_cases ht : t < l.length * k
 · rw [get_flatE hk l t ht]
   have h0 : 0 < k := Nat.pos_of_ne_zero fun e => by subst e; simp at ht
   have h1 : t % k < k := Nat.mod_lt _ h0
   have h2 : t < (flatK enc k l.toArray).size := by simpa using ht
   have h3 := get_flatK enc k l.toArray t (by simpa using ht)
   rw [getElem!_pos _ t h2] at h3
   rw [Array.getElem?_toList, Array.getElem?_eq_getElem h2, h3, show l.toArray[t / k]! = l.getD (t / k) default by simp [List.getD_eq_getElem?_getD, Array.getElem!_eq_getD, Array.getD]; split <;> simp_all]
   rw [List.getElem?_eq_getElem (by rw [hk]; exact h1), getElem!_pos _ _ (by rw [hk]; exact h1)]
 rw [List.getElem?_eq_none (by simpa using ht), List.getElem?_eq_none (by rw [len_flatE hk]; omega)]
omit [Inhabited α] in
/-- A row of one's own of k plain cells an element: what lies there. -/
theorem repK_inv (hk : ∀ x, (enc x).length = k) {P : Program} {S : Nat → Prop} {w : World} {bs : List Nat} {u : Value} {e : TypeId} {ds : List α} (h : Rep P S w bs u (.own e (ds.map (rowK enc)))) (hi : sizeIs P e k) (hd : 0 < ds.length) :
   ∃ g cap cur, u = .slice (some ⟨g, 0, none⟩) ds.length cap ∧ w.heap[g]? = some (.cells cur e (0, 0)) ∧ ds.length ≤ cap ∧ cap ≤ maxLen ∧ cur.size = cap * k ∧ cur.toList.take (ds.length * k) = (ds.map enc).flatten ∧ bs = [g] := by
 obtain ⟨us, sz, bss, rfl, hi', hsz, hown, hul, hbl, hc⟩ := h.own_inv
 obtain rfl := sizeIs.inj hi hi'
 rw [List.length_map] at hown
 have hlf : us.length = (ds.map enc).flatten.length := by rw [hul, flat_rowK, List.length_map]
 have key : ∀ j (hj : j < us.length) (hj' : j < (ds.map enc).flatten.length), Rep P S w (bss[j]'(by rw [hbl]; exact hj)) us[j] (.v (ds.map enc).flatten[j]) := fun j hj hj' => by
   have hx : (ds.map (rowK enc)).flatten[j]? = some (.v (ds.map enc).flatten[j]) := by
     have := congrArg (fun l => l[j]?) (flat_rowK (enc := enc) ds)
     simp only [List.getElem?_map, List.getElem?_eq_getElem hj'] at this
     exact this
   exact hc j _ _ _ (List.getElem?_eq_getElem hj) hx (List.getElem?_eq_getElem _)
 rcases hown.2 with ⟨-, h0⟩ | ⟨g, cap, cur, rfl, -, hg, h1, h2, h3, h4⟩
 · omega
 have hus : us = (ds.map enc).flatten := by
   refine List.ext_getElem (by rw [hul, flat_rowK, List.length_map]) fun j h5 h6 => ?_
   exact (key j h5 h6).v_inv.1
 have hbs : bss.flatten = [] := by
   rw [List.flatten_eq_nil_iff]
   intro b hb
   obtain ⟨j, hj, rfl⟩ := List.getElem_of_mem hb
   exact (key j (by rw [← hbl]; exact hj) (by rw [← hlf, ← hbl]; exact hj)).v_inv.2.1
 exact ⟨g, cap, cur, rfl, hg, h1, h2, h3, by rw [h4, hus], by rw [hbs]; rfl⟩
omit [Inhabited α] in
theorem repK (hk : ∀ x, (enc x).length = k) {P : Program} {S : Nat → Prop} {w : World} {e : TypeId} {ds : List α} {g cap : Nat} {cur : Array Value} (h1c : ∀ x, ∀ v ∈ enc x, v.oneCell' = true) (hi : sizeIs P e k) (hg : w.heap[g]? = some (.cells cur e (0, 0))) (h1 : ds.length ≤ cap) (h2 : cap ≤ maxLen) (h3 : cur.size = cap * k) (h4 : cur.toList.take (ds.length * k) = (ds.map enc).flatten) :
   Rep P S w [g] (.slice (some ⟨g, 0, none⟩) ds.length cap) (.own e (ds.map (rowK enc))) := by
 have := Rep.own (P := P) (S := S) (w := w) (v := .slice (some ⟨g, 0, none⟩) ds.length cap) (e := e) (es := ds.map (rowK enc)) (us := (ds.map enc).flatten) (sz := k) (bss := List.replicate (ds.length * k) []) hi
   (fun x hx => by obtain ⟨p, _, rfl⟩ := List.mem_map.1 hx; rw [rowK, List.length_map, hk])
   ⟨by rw [len_flatE hk, List.length_map], .inr ⟨g, cap, cur, by rw [List.length_map], Nat.zero_le _, hg, by rw [List.length_map]; exact h1, h2, h3, by rw [List.length_map]; exact h4⟩⟩
   (by rw [flat_rowK, List.length_map]) (by rw [List.length_replicate, len_flatE hk])
   (fun i u x bs q1 q2 q3 => by
     rw [flat_rowK, List.getElem?_map, q1] at q2
     injection q2 with q2
     subst q2
     rw [List.getElem?_replicate] at q3
     split at q3
     · injection q3 with q3; subst q3
       obtain ⟨r, hr, hur⟩ := List.mem_flatten.1 (List.mem_of_getElem? q1)
       obtain ⟨z, _, rfl⟩ := List.mem_map.1 hr
       exact .v (h1c z u hur)
     cases q3)
 simpa [Value.ownBlock] using this
theorem holdsKE (hk : ∀ x, (enc x).length = k) {w : World} {g : Nat} {cur : Array Value} {e : TypeId} {ds : List α} (hb : w.heap[g]? = some (.cells cur e (0, 0))) (ht : cur.toList.take (ds.length * k) = (ds.map enc).flatten) : HoldsK enc k w g 0 ds.toArray := by
 have := holdsE (enc := id) (ss := (flatK enc k ds.toArray).toList) hb (by rw [flatK_list hk, len_flatE hk, List.map_id]; exact ht)
 simpa [HoldsK] using this
theorem heapKE {w : World} {g : Nat} {cur : Array Value} {e : TypeId} {fr : Nat × Nat} (d : Array α) (hb : w.heap[g]? = some (.cells cur e fr)) : (putRowK enc k w g 0 d).heap[g]? = some (.cells (putCells id 0 (flatK enc k d) cur) e fr) := by
 have := heapE (enc := id) (n := 0) (os := #[]) (flatK enc k d) hb
 simpa [putRowK] using this
theorem takeKE (hk : ∀ x, (enc x).length = k) (cur : Array Value) (l : List α) (h : l.length * k ≤ cur.size) : (putCells id 0 (flatK enc k l.toArray) cur).toList.take (l.length * k) = (l.map enc).flatten := by
 have := takeE (enc := id) cur (flatK enc k l.toArray).toList (by rw [flatK_list hk, len_flatE hk]; exact h)
 rw [flatK_list hk, len_flatE hk, List.map_id] at this
 rw [← this, ← flatK_list hk]
theorem keptKE {w : World} {g : Nat} (d : Array α) : Kept (fun q => q ≠ g) w (putRowK enc k w g 0 d) := by
 have := keptE (enc := id) (w := w) (g := g) (n := 0) (os := #[]) (flatK enc k d)
 simpa [putRowK] using this
end
section
open Go.Sort
variable {C : Cx} {o : Oper} {ev : Operand → AV} {T : Sl} {α : Type} [Inhabited α] {enc : α → List Value} {k : Nat}
/-- The library's swap of two rows, by a function value, in a slice that bears a name. -/
theorem op_swapN (hk : ∀ x, (enc x).length = k) (h1c : ∀ x, ∀ v ∈ enc x, v.oneCell' = true) {sf : FuncId} {p p1 p2 : Operand} {ts : Array TypeId} {r k0 : Nat} {u th : Value} {e : TypeId} {ds : List α} {i j : Nat} {ui uj : Int}
   (ho : o.op = .call { callee := .value p, args := #[p1, p2], argTypes := ts }) (hp : ev p = .clo sf [.v u, .v th]) (h1 : ev p1 = .v (.int .i64 ui)) (h2 : ev p2 = .v (.int .i64 uj)) (hT : T.slots[r]? = some (k0, .nm u e (ds.map (rowK enc)))) (hsz : sizeIs C.P e k)
   (hui : ui = i) (huj : uj = j) (hi : i < ds.length) (hj : j < ds.length) (hsw : ∀ blk n c, u = .slice (some ⟨blk, 0, none⟩) n c → SwapSwapsK C.P sf #[u, th] enc k blk 0 n)
   {T' : Sl} (hT' : (⟨T.slots.set r (k0, .nm u e ((swp ds.toArray i j).toList.map (rowK enc))), T.ep⟩ : Sl) = T') : OpJ C o ev T .any T' := by
 subst hT' hui huj
 intro a w S vals bss hm h K hK Q
 have q0 := h p (by simp [ho, Op.operands, Call.operands])
 have q1 := h p1 (by simp [ho, Op.operands, Call.operands])
 have q2 := h p2 (by simp [ho, Op.operands, Call.operands])
 rw [hp] at q0
 rw [h1] at q1
 rw [h2] at q2
 obtain ⟨us, hfv, hul, hur⟩ := (show Rep C.P S w [] _ (.clo sf [.v u, .v th]) from q0).clo_inv
 obtain ⟨a1, a2, rfl⟩ : ∃ a1 a2, us = [a1, a2] := by
   match us, hul with
   | [a1, a2], _ => exact ⟨a1, a2, rfl⟩
 have e1 := (hur 0 a1 (.v u) rfl rfl).v_inv.1
 have e2 := (hur 1 a2 (.v th) rfl rfl).v_inv.1
 subst e1 e2
 obtain ⟨v, bs, hv, hb, hrep⟩ := hm.slot hT
 have hnm : v = a1 ∧ Rep C.P S w bs a1 (.own e (ds.map (rowK enc))) := by
   cases hrep with
   | nm h => exact ⟨rfl, h⟩
 obtain ⟨rfl, hr1⟩ := hnm
 have hbn := hm.nodup r bs hb
 obtain ⟨g0, cap, cur, rfl, hg, c1, c2, c3, c4, rfl⟩ := repK_inv hk hr1 hsz (by omega)
 have hH := holdsKE hk hg c4
 have hs := hsw g0 ds.length cap rfl w ds.toArray hH (by simp) i j hi hj
 have hlk : ds.length * k ≤ cap * k := Nat.mul_le_mul_right k c1
 have hw' : (w.setCells g0 (0 + i * k) (enc ds.toArray[j]!)).setCells g0 (0 + j * k) (enc ds.toArray[i]!) = putRowK enc k w g0 0 (swp ds.toArray i j) := by
   have := putRowK_swp enc k hk w g0 0 ds.toArray i j (by simpa using hi) (by simpa using hj)
   rwa [putRowK_self enc k w g0 0 _ hH] at this
 rw [hw'] at hs
 have hrun : (execOp a.eval o).run C.P w = .ok (.value (.tuple #[])) (putRowK enc k w g0 0 (swp ds.toArray i j)) := by
   simp only [execOp, ho, resolve, hfv, Deferred.ofValue, Sem.run_bind, Sem.run_pure, Result.andThen_ok, invoke]
   have e1 : (#[p1, p2].map a.eval) = #[.int .i64 (i : Int), .int .i64 (j : Int)] := by
     simp only [List.map_toArray, List.map_cons, List.map_nil]
     rw [q1.v, q2.v]
   rw [show (#[p1, p2].map fun o => a.eval o) = (#[p1, p2].map a.eval) from rfl] at *
   simpa [e1] using hs
 unfold Oper.wp
 rw [hrun]
 have hln : (swp ds.toArray i j).toList.length = ds.length := by simp [size_swp]
 have hk' : Kept (fun q => q ∉ [g0]) w (putRowK enc k w g0 0 (swp ds.toArray i j)) := (keptKE _).mono fun q _ h => by simpa using h
 have hr2 : Rep C.P S (putRowK enc k w g0 0 (swp ds.toArray i j)) [g0] (.slice (some ⟨g0, 0, none⟩) ds.length cap) (.own e ((swp ds.toArray i j).toList.map (rowK enc))) := by
   have ht := takeKE hk cur (swp ds.toArray i j).toList (by rw [hln, c3]; exact hlk)
   have := repK (P := C.P) (S := S) (e := e) (ds := (swp ds.toArray i j).toList) hk h1c hsz (heapKE (swp ds.toArray i j).toList.toArray hg) (by rw [hln]; exact c1) c2 (by simp [putCells, c3]) ht
   rw [hln] at this
   exact this
 obtain ⟨hm1, hf1⟩ := hm.set (k' := k0) (ep' := T.ep) hT hv hb hk' (.nm hr2) hbn (fun b h => .inl h) (.inl ⟨rfl, rfl, rfl, (fun e es h => by cases h), fun b ks h => by cases h⟩)
 exact hK _ _ _ _ _ hm1 hf1 TmpOK.any_
end
set_option maxRecDepth 100000
theorem C48 {l : List Piece} {i j : Nat} (hi : i < l.length) (hj : j < l.length) (hl : l.length ≤ 1000) : Fn Tryz.prog 48 [] [.v (.int .i64 i), .v (.int .i64 j), .rop [.ro (l.map Piece.av)]] [.v (.bool (yB l[i] l[j]))] [] := by
 refine Spec.body Tryz.func48 rfl Tryz.ntmps48 (by simp) rfl ?_; intro S0 own0 v0 w0
 refine zA fun K hK => zB ?_
 refine zF (zD rfl rfl) ?_; try simp only [nA, Nat.reduceBEq, Nat.reduceEqDiff, ↓reduceIte, Nat.reduceAdd, Nat.reduceSub]
 refine zE (hK _ ?_); clear hK K; try simp only [nA, Nat.reduceBEq, Nat.reduceEqDiff, ↓reduceIte, Nat.reduceAdd, Nat.reduceSub]
 refine zA fun K hK => ?_
 refine zA fun K hK => ?_
 refine AW.quiet mix (by kernel_rfl) ?_
 (refine aqR (yA rfl rfl ag31) ?_); try simp only [nA, Nat.reduceBEq, Nat.reduceEqDiff, ↓reduceIte, Nat.reduceAdd, Nat.reduceSub]
 refine zQ (zC rfl rfl) ?_; simp only [nA, ↓reduceIte]
 (refine zQ (zW _ rfl (.inl rfl) rfl Tryz.underlying31 rfl (get_map (by omega)) (by exact yR) (bl rfl)) ?_); try simp only [nA, Nat.reduceBEq, Nat.reduceEqDiff, ↓reduceIte, Nat.reduceAdd, Nat.reduceSub]
 (refine zQ (yM rfl rfl fl35_1 (by exact sz3) (by decide) (bl rfl) rfl) ?_); try simp only [nA, Nat.reduceBEq, Nat.reduceEqDiff, ↓reduceIte, Nat.reduceAdd, Nat.reduceSub]
 (refine aqR (yA rfl rfl ag3) ?_); try simp only [nA, Nat.reduceBEq, Nat.reduceEqDiff, ↓reduceIte, Nat.reduceAdd, Nat.reduceSub]
 (refine aqR (yA rfl rfl ag31) ?_); try simp only [nA, Nat.reduceBEq, Nat.reduceEqDiff, ↓reduceIte, Nat.reduceAdd, Nat.reduceSub]
 refine zQ (zC rfl rfl) ?_; simp only [nA, ↓reduceIte]
 (refine zQ (zW _ rfl (.inl rfl) rfl Tryz.underlying31 rfl (get_map (by omega)) (by exact yR) (bl rfl)) ?_); try simp only [nA, Nat.reduceBEq, Nat.reduceEqDiff, ↓reduceIte, Nat.reduceAdd, Nat.reduceSub]
 (refine zQ (yM rfl rfl fl35_1 (by exact sz3) (by decide) (bl rfl) rfl) ?_); try simp only [nA, Nat.reduceBEq, Nat.reduceEqDiff, ↓reduceIte, Nat.reduceAdd, Nat.reduceSub]
 (refine aqR (yA rfl rfl ag3) ?_); try simp only [nA, Nat.reduceBEq, Nat.reduceEqDiff, ↓reduceIte, Nat.reduceAdd, Nat.reduceSub]
 (refine zQ (op_neq rfl rfl rfl) ?_); try simp only [nA, Nat.reduceBEq, Nat.reduceEqDiff, ↓reduceIte, Nat.reduceAdd, Nat.reduceSub]
 refine yN (hK _ ?_); clear hK K
 refine zL rfl rfl rfl (fun hc => ?_) (fun hc => ?_)
 ·
  (try simp only [z7] at hc); have hc1 := hc
  refine zA fun K hK => ?_
  refine AW.quiet mix (by kernel_rfl) ?_
  (refine aqR (yA rfl rfl ag31) ?_); try simp only [nA, Nat.reduceBEq, Nat.reduceEqDiff, ↓reduceIte, Nat.reduceAdd, Nat.reduceSub]
  refine zQ (zC rfl rfl) ?_; simp only [nA, ↓reduceIte]
  (refine zQ (zW _ rfl (.inl rfl) rfl Tryz.underlying31 rfl (get_map (by omega)) (by exact yR) (bl rfl)) ?_); try simp only [nA, Nat.reduceBEq, Nat.reduceEqDiff, ↓reduceIte, Nat.reduceAdd, Nat.reduceSub]
  (refine zQ (yM rfl rfl fl35_1 (by exact sz3) (by decide) (bl rfl) rfl) ?_); try simp only [nA, Nat.reduceBEq, Nat.reduceEqDiff, ↓reduceIte, Nat.reduceAdd, Nat.reduceSub]
  (refine aqR (yA rfl rfl ag3) ?_); try simp only [nA, Nat.reduceBEq, Nat.reduceEqDiff, ↓reduceIte, Nat.reduceAdd, Nat.reduceSub]
  (refine aqR (yA rfl rfl ag31) ?_); try simp only [nA, Nat.reduceBEq, Nat.reduceEqDiff, ↓reduceIte, Nat.reduceAdd, Nat.reduceSub]
  refine zQ (zC rfl rfl) ?_; simp only [nA, ↓reduceIte]
  (refine zQ (zW _ rfl (.inl rfl) rfl Tryz.underlying31 rfl (get_map (by omega)) (by exact yR) (bl rfl)) ?_); try simp only [nA, Nat.reduceBEq, Nat.reduceEqDiff, ↓reduceIte, Nat.reduceAdd, Nat.reduceSub]
  (refine zQ (yM rfl rfl fl35_1 (by exact sz3) (by decide) (bl rfl) rfl) ?_); try simp only [nA, Nat.reduceBEq, Nat.reduceEqDiff, ↓reduceIte, Nat.reduceAdd, Nat.reduceSub]
  (refine aqR (yA rfl rfl ag3) ?_); try simp only [nA, Nat.reduceBEq, Nat.reduceEqDiff, ↓reduceIte, Nat.reduceAdd, Nat.reduceSub]
  refine zQ (op_gtr rfl rfl rfl) ?_; try simp only [nA, Nat.reduceBEq, Nat.reduceEqDiff, ↓reduceIte, Nat.reduceAdd, Nat.reduceSub]
  refine zQ (zD rfl rfl) ?_; simp only [nA]
  refine yN (hK _ ?_); clear hK K
  skip
  refine zO ?_; (try simp only [zI, zJ, Nat.reduceEqDiff, ↓reduceIte]); rw [show yB l[i] l[j] = decide (l[i].weight > l[j].weight) by unfold yB; simp [hc]]; exact zS rfl (.tmp (bl rfl) rfl rfl .nil)
 (try simp only [z7] at hc); have hc1 := hc
 refine zM ?_
 refine hK _ ?_; clear hK K
 refine zA fun K hK => ?_
 refine AW.quiet mix (by kernel_rfl) ?_
 (refine aqR (yA rfl rfl ag31) ?_); try simp only [nA, Nat.reduceBEq, Nat.reduceEqDiff, ↓reduceIte, Nat.reduceAdd, Nat.reduceSub]
 refine zQ (zC rfl rfl) ?_; simp only [nA, ↓reduceIte]
 (refine zQ (zW _ rfl (.inl rfl) rfl Tryz.underlying31 rfl (get_map (by omega)) (by exact yR) (bl rfl)) ?_); try simp only [nA, Nat.reduceBEq, Nat.reduceEqDiff, ↓reduceIte, Nat.reduceAdd, Nat.reduceSub]
 (refine zQ (yM rfl rfl fl35_0 (by exact sz23) (by decide) (bl rfl) rfl) ?_); try simp only [nA, Nat.reduceBEq, Nat.reduceEqDiff, ↓reduceIte, Nat.reduceAdd, Nat.reduceSub]
 (refine aqR (zY rfl rfl ag23 sz23 (bl rfl) (by decide) rfl) ?_); try simp only [nA, Nat.reduceBEq, Nat.reduceEqDiff, ↓reduceIte, Nat.reduceAdd, Nat.reduceSub]
 (refine aqR (yA rfl rfl ag31) ?_); try simp only [nA, Nat.reduceBEq, Nat.reduceEqDiff, ↓reduceIte, Nat.reduceAdd, Nat.reduceSub]
 refine zQ (zC rfl rfl) ?_; simp only [nA, ↓reduceIte]
 (refine zQ (zW _ rfl (.inl rfl) rfl Tryz.underlying31 rfl (get_map (by omega)) (by exact yR) (bl rfl)) ?_); try simp only [nA, Nat.reduceBEq, Nat.reduceEqDiff, ↓reduceIte, Nat.reduceAdd, Nat.reduceSub]
 (refine zQ (yM rfl rfl fl35_0 (by exact sz23) (by decide) (bl rfl) rfl) ?_); try simp only [nA, Nat.reduceBEq, Nat.reduceEqDiff, ↓reduceIte, Nat.reduceAdd, Nat.reduceSub]
 (refine aqR (zY rfl rfl ag23 sz23 (bl rfl) (by decide) rfl) ?_); try simp only [nA, Nat.reduceBEq, Nat.reduceEqDiff, ↓reduceIte, Nat.reduceAdd, Nat.reduceSub]
 refine aqQ (zT (b := true) rfl en49 (C49) (RL.cons (by exact View.same rfl) (RL.cons (by exact View.same rfl) (RL.nil))) rfl) ?_; try simp only [nA, Nat.reduceBEq, Nat.reduceEqDiff, ↓reduceIte, Nat.reduceAdd, Nat.reduceSub]
 refine zQ (yP rfl rfl rfl) ?_; try simp only [nA, Nat.reduceBEq, Nat.reduceEqDiff, ↓reduceIte, Nat.reduceAdd, Nat.reduceSub]
 refine zQ (zD rfl rfl) ?_; simp only [nA]
 refine yN (hK _ ?_); clear hK K
 skip
 refine zO ?_; (try simp only [zI, zJ, Nat.reduceEqDiff, ↓reduceIte]); rw [show yB l[i] l[j] = decide (cmpP l[i].plate l[j].plate < 0) by unfold yB; simp [hc]]; exact zS rfl (.tmp (bl rfl) rfl rfl .nil)
end Go.Proofs.YtmdohphcolffmaaGreat
namespace Go.Proofs.YtmdohphcolffmaaGreat
set_option maxHeartbeats 8000000
open Go.RowKit Go.Shelf
section
open Go.Sort Go.Lib
noncomputable def pcT : TypeInfo := (Tryz.prog.info? 31).get (by kernel_rfl)
noncomputable def pcE : TypeInfo := (Tryz.prog.info? 35).get (by kernel_rfl)
theorem pcK (n : Nat) (h2 : 2 ≤ n) : Lib.swapperK n pcE 25 = 9 := by
 have a : pcE.hasPointers = false := by kernel_rfl
 have b : pcE.bytes = 40 := by kernel_rfl
 have c : (n == 0) = false := by simp; omega
 have d : (n == 1) = false := by simp; omega
 simp [Lib.swapperK, a, b, c, d]
def encP (p : Piece) : List Value := [.int .i64 p.plate.lead, .int .i64 p.plate.airline, .int .i64 p.plate.serial, .int .i64 p.weight, .int .i64 p.category]
theorem one_encP : ∀ x, ∀ v ∈ encP x, v.oneCell' = true := fun x v h => by
 simp only [encP, List.mem_cons, List.not_mem_nil, or_false] at h
 rcases h with rfl | rfl | rfl | rfl | rfl <;> rfl
noncomputable def th41 : Value := typeHandle Tryz.prog 35
theorem swp71 (blk n c : Nat) : SwapSwapsK Tryz.prog 92 #[.slice (some ⟨blk, 0, none⟩) n c, th41] encP 5 blk 0 n :=
 swapSwapsK_of_literal false 92 (fun args W => run_callFunc_extern Tryz.func92 (by kernel_rfl) (by kernel_rfl) (by kernel_rfl) (e := Extern.ReflectliteSwapper.swap false) (by kernel_rfl) args W) 35 pcE (by kernel_rfl) encP 5 (fun _ => rfl) (by kernel_rfl)
   (fun w => by first | exact Tryz.isAgg35 w | kernel_rfl) one_encP blk 0 n c
end
abbrev rowsP (d : Array Piece) : List (List AV) := d.toList.map Piece.av
theorem rowsP_flat (d : Array Piece) : ∀ r ∈ rowsP d, ∀ c ∈ r, flatA c = true := fun r hr c hc => by
 obtain ⟨p, _, rfl⟩ := List.mem_map.1 hr
 simp only [Piece.av, List.mem_cons, List.not_mem_nil, or_false] at hc
 rcases hc with rfl | rfl | rfl | rfl | rfl <;> rfl
/-- The two function values over the slice at u. -/
noncomputable abbrev dataW (u : Value) : List AV := [.clo 48 [.rop [.v u]], .clo 92 [.v u, .v th41]]
/-- .. while the slice is only read. -/
noncomputable abbrev dataR (d : Array Piece) (u : Value) : List AV := [.clo 48 [.rop [.ro (rowsP d)]], .clo 92 [.v u, .v th41]]
theorem C48a {d : Array Piece} {i j : Int} (hi : 0 ≤ i ∧ i < d.size) (hj : 0 ≤ j ∧ j < d.size) (hl : d.size ≤ 1000) : Fn Tryz.prog 48 [] ([.v (.int .i64 i), .v (.int .i64 j)] ++ [.rop [.ro (rowsP d)]]) [.v (.bool (yB d[i.toNat]! d[j.toNat]!))] [] := by
 have h := C48 (l := d.toList) (i := i.toNat) (j := j.toNat) (by simp; omega) (by simp; omega) (by simpa using hl)
 rw [show ((i.toNat : Nat) : Int) = i by omega, show ((j.toNat : Nat) : Int) = j by omega] at h
 rw [getElem!_pos d _ (by omega), getElem!_pos d _ (by omega)]
 simpa using h
section
variable {S0 : Nat → Prop} {own0 : List Nat} {v0 : List Value} {w0 : World} {o : Oper} {ev : Operand → AV} {T : Sl} {p p1 p2 : Operand} {ts : Array TypeId} {r k : Nat} {u : Value} {d : Array Piece} {i j : Int}
theorem op_lt (ho : o.op = .call { callee := .value p, args := #[p1, p2], argTypes := ts }) (hp : ev p = .clo 48 [.rop [.v u]]) (h1 : ev p1 = .v (.int .i64 i)) (h2 : ev p2 = .v (.int .i64 j)) (hT : T.slots[r]? = some (k, .nm u 35 (rowsP d)))
   (hl : d.size ≤ 1000) (hi : 0 ≤ i ∧ i < d.size) (hj : 0 ≤ j ∧ j < d.size) : OpQ ⟨Tryz.prog, S0, own0, v0, w0⟩ o ev T (.v (.bool (yB d[i.toNat]! d[j.toNat]!))) :=
 op_lessQ (xs := [.v (.int .i64 i), .v (.int .i64 j)]) ho hp hT (rowsP_flat d) (enters_of Tryz.func48 (by kernel_rfl) rfl) (C48a hi hj hl) (by rw [show (#[p1, p2] : Array Operand).toList.map ev = [ev p1, ev p2] from rfl, h1, h2]; exact ⟨rfl, fun q a b e1 e2 => by match q, e1, e2 with | 0, e1, e2 => injection e1 with e1; injection e2 with e2; subst e1; subst e2; exact .same rfl | 1, e1, e2 => injection e1 with e1; injection e2 with e2; subst e1; subst e2; exact .same rfl⟩) rfl
theorem op_ltR (ho : o.op = .call { callee := .value p, args := #[p1, p2], argTypes := ts }) (hp : ev p = .clo 48 [.rop [.ro (rowsP d)]]) (h1 : ev p1 = .v (.int .i64 i)) (h2 : ev p2 = .v (.int .i64 j))
   (hl : d.size ≤ 1000) (hi : 0 ≤ i ∧ i < d.size) (hj : 0 ≤ j ∧ j < d.size) : OpQ ⟨Tryz.prog, S0, own0, v0, w0⟩ o ev T (.v (.bool (yB d[i.toNat]! d[j.toNat]!))) :=
 op_cloQ (b := true) (xs := [.v (.int .i64 i), .v (.int .i64 j)]) ho hp (enters_of Tryz.func48 (by kernel_rfl) rfl) (C48a hi hj hl) (by rw [show (#[p1, p2] : Array Operand).toList.map ev = [ev p1, ev p2] from rfl, h1, h2]; exact ⟨rfl, fun q a b e1 e2 => by match q, e1, e2 with | 0, e1, e2 => injection e1 with e1; injection e2 with e2; subst e1; subst e2; exact .same rfl | 1, e1, e2 => injection e1 with e1; injection e2 with e2; subst e1; subst e2; exact .same rfl⟩) rfl
theorem op_sw (ho : o.op = .call { callee := .value p, args := #[p1, p2], argTypes := ts }) (hp : ev p = .clo 92 [.v u, .v th41]) (h1 : ev p1 = .v (.int .i64 i)) (h2 : ev p2 = .v (.int .i64 j)) (hT : T.slots[r]? = some (k, .nm u 35 (rowsP d)))
   (hi : 0 ≤ i ∧ i < d.size) (hj : 0 ≤ j ∧ j < d.size) {T' : Sl} (hT' : (⟨T.slots.set r (k, .nm u 35 (rowsP (Go.Sort.swp d i.toNat j.toNat))), T.ep⟩ : Sl) = T') : OpJ ⟨Tryz.prog, S0, own0, v0, w0⟩ o ev T .any T' :=
 op_swapN (C := ⟨Tryz.prog, S0, own0, v0, w0⟩) (enc := encP) (k := 5) (ds := d.toList) (i := i.toNat) (j := j.toNat) (ui := i) (uj := j) (u := u) (th := th41) (e := 35) (r := r) (k0 := k) (sf := 92) (fun _ => rfl) one_encP ho hp h1 h2 hT yR (by omega) (by omega) (by rw [Array.length_toList]; omega) (by rw [Array.length_toList]; omega) (fun blk n c e => by rw [e]; exact swp71 blk n c) hT'
end
end Go.Proofs.YtmdohphcolffmaaGreat
namespace Go.Proofs.YtmdohphcolffmaaGreat
set_option maxHeartbeats 8000000
open Go.RowKit
set_option linter.unusedSimpArgs false
set_option linter.unusedVariables false
set_option maxRecDepth 100000
section
open Go.Sort
variable {lt : Piece → Piece → Bool}
theorem inner_pos {a j : Nat} {d : Array Piece} (h : a < j) (hl : lt d[j]! d[j - 1]! = true) : insInner lt a j d = insInner lt a (j - 1) (swp d j (j - 1)) := by
 obtain ⟨j, rfl⟩ : ∃ q, j = q + 1 := ⟨j - 1, by omega⟩
 rw [insInner, if_pos (by simp at hl ⊢; exact ⟨h, hl⟩)]; rfl
theorem inner_neg {a j : Nat} {d : Array Piece} (h : ¬ (a < j ∧ lt d[j]! d[j - 1]! = true)) : insInner lt a j d = d := by
 cases j with
 | zero => rfl
 | succ j => rw [insInner, if_neg (by simp at h ⊢; exact h)]
theorem outer_pos {a b i : Nat} {d : Array Piece} (h : i < b) : insOuter lt a b i d = insOuter lt a b (i + 1) (insInner lt a i d) := by rw [insOuter, if_pos h]
theorem outer_neg {a b i : Nat} {d : Array Piece} (h : ¬ i < b) : insOuter lt a b i d = d := by rw [insOuter, if_neg h]
end
theorem ag87 : aggB Tryz.prog 87 = some false := by kernel_rfl
theorem ag108 : aggB Tryz.prog 108 = some false := by kernel_rfl
theorem vint {a b : Int} (h : a = b) : AV.v (.int .i64 a) = AV.v (.int .i64 b) := by rw [h]
abbrev srt (u : Value) (d : Array Piece) : AV := .nm u 35 (rowsP d)
theorem C95 {u : Value} {d : Array Piece} {a b : Nat} (hab : a ≤ b) (hb : b ≤ d.size) (hl : d.size ≤ 1000) : Fn Tryz.prog 95 [srt u d] [.agg (dataW u), .v (.int .i64 a), .v (.int .i64 b)] [] [srt u (Go.Sort.insertionSort yB d a b)] := by
 refine Spec.body Tryz.func95 rfl Tryz.ntmps95 (by simp) rfl ?_; intro S0 own0 v0 w0
 refine zA fun K hK => zB ?_
 refine yD (yO rfl rfl rfl sz114 rfl) ?_; simp only [nA, Nat.reduceBEq, Nat.reduceEqDiff, ↓reduceIte]
 refine zE (hK _ ?_); clear hK K; try simp only [nA, Nat.reduceBEq, Nat.reduceEqDiff, ↓reduceIte, Nat.reduceAdd, Nat.reduceSub]
 refine zA fun K hK => zB ?_
 refine zF (zC rfl rfl) ?_; simp only [nA, ↓reduceIte]
 (refine zF (zR rfl rfl rfl (by omega)) ?_); try simp only [nA, Nat.reduceBEq, Nat.reduceEqDiff, ↓reduceIte, Nat.reduceAdd, Nat.reduceSub]
 refine zF (zD rfl rfl) ?_; simp only [nA]
 refine zE (hK _ ?_); clear hK K
 refine zN ?_
 refine yC (fun (q : Nat × Array Piece) => [(1, .v (.int .i64 a)), (2, .v (.int .i64 b)), (3, .ptr 1 1 0 0), (6, .v (.int .i64 (q.1 : Nat)))]) (fun q => ⟨[(0, srt u q.2), (1, .own 114 [dataW u])], 2⟩) (fun q => a < q.1 ∧ q.1 ≤ b + 1 ∧ q.2.size = d.size ∧ Go.Sort.insOuter yB a b q.1 q.2 = Go.Sort.insOuter yB a b (a + 1) d) (fun q => b + 1 - q.1) (a + 1, d) ⟨by omega, by omega, rfl, rfl⟩ ⟨rfl, rfl, rfl, rfl, trivial⟩ rfl ?_; rintro ⟨i, dk⟩ ρ ⟨hi1, hi2, hs, hO⟩; dsimp only at hi1 hi2 hs hO ⊢; simp only [updL]
 refine zA fun K hK => ?_
 refine zA fun K hK => zB ?_
 refine zF (zC rfl rfl) ?_; simp only [nA, ↓reduceIte]
 refine zF (zC rfl rfl) ?_; simp only [nA, ↓reduceIte]
 refine zF (yP rfl rfl rfl) ?_; try simp only [nA, Nat.reduceBEq, Nat.reduceEqDiff, ↓reduceIte, Nat.reduceAdd, Nat.reduceSub]
 refine zE (hK _ ?_); clear hK K
 refine zL rfl rfl rfl (fun hc => ?_) (fun hc => ?_)
 ·
  (try simp only [z7] at hc); have hc1 := hc
  refine zM ?_
  refine hK _ ?_; clear hK K
  refine zA fun K hK => zN ?_
  refine zA fun K hK => zB ?_
  refine zF (zC rfl rfl) ?_; simp only [nA, ↓reduceIte]
  refine zF (zD rfl rfl) ?_; simp only [nA]
  refine zE (hK _ ?_); clear hK K
  refine zN ?_
  refine yC (fun (q : Nat × Array Piece) => [(1, .v (.int .i64 a)), (2, .v (.int .i64 b)), (3, .ptr 1 1 0 0), (6, .v (.int .i64 (i : Nat))), (7, .v (.int .i64 (q.1 : Nat)))]) (fun q => ⟨[(0, srt u q.2), (1, .own 114 [dataW u])], 2⟩) (fun q => a ≤ q.1 ∧ q.1 ≤ i ∧ q.2.size = d.size ∧ Go.Sort.insInner yB a q.1 q.2 = Go.Sort.insInner yB a i dk) (fun q => q.1) (i, dk) ⟨by omega, by omega, hs, rfl⟩ ⟨rfl, rfl, rfl, rfl, rfl, trivial⟩ rfl ?_; rintro ⟨j, dj⟩ ρ ⟨hj1, hj2, hs2, hI⟩; dsimp only at hj1 hj2 hs2 hI ⊢; simp only [updL]
  refine zA fun K hK => ?_
  refine zA fun K hK => zB (yS ?_)
  refine zQ (zC rfl rfl) ?_; simp only [nA, ↓reduceIte]
  refine zQ (zC rfl rfl) ?_; simp only [nA, ↓reduceIte]
  refine zQ (op_gtr rfl rfl rfl) ?_; try simp only [nA, Nat.reduceBEq, Nat.reduceEqDiff, ↓reduceIte, Nat.reduceAdd, Nat.reduceSub]
  refine zQ (zC rfl rfl) ?_; simp only [nA]
  refine' yK [_, _, _, _, _, _] [20,21,22,23,24,25] rfl rfl rfl rfl rfl rfl rfl rfl rfl rfl rfl rfl (fun hb => ?_) ?_; rotate_left
  ·
   (try simp only [z7] at hb)
   (refine zQ (zH rfl rfl rfl fl114_0 (by exact sz2) (by decide) rfl) ?_); try simp only [nA, Nat.reduceBEq, Nat.reduceEqDiff, ↓reduceIte, Nat.reduceAdd, Nat.reduceSub]
   (refine aqR (zG rfl rfl rfl rfl ag87 rfl rfl) ?_); try simp only [nA, Nat.reduceBEq, Nat.reduceEqDiff, ↓reduceIte, Nat.reduceAdd, Nat.reduceSub]
   refine zQ (zC rfl rfl) ?_; simp only [nA, ↓reduceIte]
   refine zQ (zC rfl rfl) ?_; simp only [nA, ↓reduceIte]
   (refine zQ (op_subi rfl rfl rfl (by omega)) ?_); try simp only [nA, Nat.reduceBEq, Nat.reduceEqDiff, ↓reduceIte, Nat.reduceAdd, Nat.reduceSub]
   refine aqQ (op_lt (r := 0) (d := dj) rfl rfl rfl rfl rfl (by omega) (by omega) (by omega)) ?_; try simp only [nA, Nat.reduceBEq, Nat.reduceEqDiff, ↓reduceIte, Nat.reduceAdd, Nat.reduceSub]
   (refine yL rfl rfl rfl ?_; repeat (first | exact fun _ _ => rfl | refine zU rfl ?_))
  refine yN (hK _ ?_); clear hK K
  refine zL rfl rfl rfl (fun hc => ?_) (fun hc => ?_)
  ·
   (try simp only [z7] at hc); have hc2 := hc; simp only [Int.toNat_natCast, Bool.and_eq_true, decide_eq_true_eq, show ((j : Int) - 1).toNat = j - 1 by omega] at hc
   refine zM ?_
   refine hK _ ?_; clear hK K
   refine zA fun K hK => zN ?_
   refine zB ?_
   (refine zF (zH rfl rfl rfl fl114_1 (by exact sz2) (by decide) rfl) ?_); try simp only [nA, Nat.reduceBEq, Nat.reduceEqDiff, ↓reduceIte, Nat.reduceAdd, Nat.reduceSub]
   (refine awR (zG rfl rfl rfl rfl ag108 rfl rfl) ?_); try simp only [nA, Nat.reduceBEq, Nat.reduceEqDiff, ↓reduceIte, Nat.reduceAdd, Nat.reduceSub]
   refine zF (zC rfl rfl) ?_; simp only [nA, Nat.reduceEqDiff, ↓reduceIte]
   refine zF (zC rfl rfl) ?_; simp only [nA, Nat.reduceEqDiff, ↓reduceIte]
   (refine zF (op_subi rfl rfl rfl (by omega)) ?_); try simp only [nA, Nat.reduceBEq, Nat.reduceEqDiff, ↓reduceIte, Nat.reduceAdd, Nat.reduceSub]
   refine yD (op_sw (r := 0) (d := dj) rfl rfl rfl rfl rfl (by omega) (by omega) rfl) ?_; try simp only [nA, Nat.reduceBEq, Nat.reduceEqDiff, ↓reduceIte, Nat.reduceAdd, Nat.reduceSub]
   refine zE ?_
   (try simp only [zI, zJ, Nat.reduceEqDiff, ↓reduceIte])
   refine hK _ ?_; clear hK K
   refine zB ?_
   refine zF (zC rfl rfl) ?_; simp only [nA, Nat.reduceEqDiff, ↓reduceIte]
   (refine zF (op_subi rfl rfl rfl (by omega)) ?_); try simp only [nA, Nat.reduceBEq, Nat.reduceEqDiff, ↓reduceIte, Nat.reduceAdd, Nat.reduceSub]
   refine zF (zD rfl rfl) ?_; simp only [nA]
   skip
   refine zE ?_
   refine ⟨(j - 1, Go.Sort.swp dj j (j - 1)), ⟨by omega, by omega, by simp [Go.Sort.size_swp, hs2], by rw [← hI]; exact (inner_pos (lt := yB) (a := a) (j := j) (d := dj) (by omega) hc.2).symm⟩, by omega, ⟨rfl, rfl, rfl, rfl, vint (by omega), trivial⟩, (by simp only [Int.toNat_natCast, show ((j : Int) - 1).toNat = j - 1 by omega]), rfl⟩
  (try simp only [z7] at hc); have hc2 := hc; simp only [Int.toNat_natCast, Bool.and_eq_true, decide_eq_true_eq, show ((j : Int) - 1).toNat = j - 1 by omega] at hc
  refine yE ?_; try simp only [zI, zJ, Nat.reduceEqDiff, ↓reduceIte]
  clear hK K
  (try simp only [zI, zJ, Nat.reduceEqDiff, ↓reduceIte])
  refine hK _ ?_; clear hK K
  refine zB ?_
  refine zF (zC rfl rfl) ?_; simp only [nA, Nat.reduceEqDiff, ↓reduceIte]
  (refine zF (zR rfl rfl rfl (by omega)) ?_); try simp only [nA, Nat.reduceBEq, Nat.reduceEqDiff, ↓reduceIte, Nat.reduceAdd, Nat.reduceSub]
  refine zF (zD rfl rfl) ?_; simp only [nA]
  skip
  refine zE ?_
  refine ⟨(i + 1, dj), ⟨by omega, by omega, hs2, by rw [← hO, outer_pos (d := dk) (show i < b by omega), ← hI, inner_neg (by rintro ⟨h1, h2⟩; rcases hc with h | h; omega; rw [h] at h2; cases h2)]⟩, by omega, ⟨rfl, rfl, rfl, rfl, trivial⟩, rfl, rfl⟩
 (try simp only [z7] at hc); have hc1 := hc
 refine yE ?_; try simp only [zI, zJ, Nat.reduceEqDiff, ↓reduceIte]
 clear hK K
 rw [show Go.Sort.insertionSort yB d a b = dk by unfold Go.Sort.insertionSort; rw [← hO]; exact outer_neg (by omega)]; exact RQ.of (.inr rfl) rfl .nil (by simp) rfl (one_out rfl)
set_option maxRecDepth 100000
section
open Go.Sort
variable {lt : Piece → Piece → Bool} {hi f r : Nat} {d : Array Piece}
theorem sift_end (h : hi ≤ 2 * r + 1) : siftDown lt hi f r d = d := by unfold siftDown; rw [dif_pos h]
theorem sift_R0 (h : 2 * r + 2 < hi) (h1 : lt d[f + (2 * r + 1)]! d[f + (2 * r + 1) + 1]! = true) (h2 : lt d[f + r]! d[f + (2 * r + 2)]! = false) : siftDown lt hi f r d = d := by
 unfold siftDown
 rw [dif_neg (by omega), if_pos (by simp only [Bool.and_eq_true, decide_eq_true_eq]; exact ⟨by omega, h1⟩), if_pos (by rw [h2]; rfl)]
theorem sift_R1 (h : 2 * r + 2 < hi) (h1 : lt d[f + (2 * r + 1)]! d[f + (2 * r + 1) + 1]! = true) (h2 : lt d[f + r]! d[f + (2 * r + 2)]! = true) : siftDown lt hi f r d = siftDown lt hi f (2 * r + 2) (swp d (f + r) (f + (2 * r + 2))) := by
 rw [siftDown]
 rw [dif_neg (by omega), if_pos (by simp only [Bool.and_eq_true, decide_eq_true_eq]; exact ⟨by omega, h1⟩), if_neg (by rw [h2]; decide), dif_pos h]
theorem sift_L0 (h : 2 * r + 1 < hi) (h1 : ¬ (2 * r + 2 < hi ∧ lt d[f + (2 * r + 1)]! d[f + (2 * r + 1) + 1]! = true)) (h2 : lt d[f + r]! d[f + (2 * r + 1)]! = false) : siftDown lt hi f r d = d := by
 unfold siftDown
 rw [dif_neg (by omega), if_neg (by simp only [Bool.and_eq_true, decide_eq_true_eq]; exact h1), if_pos (by rw [h2]; rfl)]
theorem sift_L1 (h : 2 * r + 1 < hi) (h1 : ¬ (2 * r + 2 < hi ∧ lt d[f + (2 * r + 1)]! d[f + (2 * r + 1) + 1]! = true)) (h2 : lt d[f + r]! d[f + (2 * r + 1)]! = true) : siftDown lt hi f r d = siftDown lt hi f (2 * r + 1) (swp d (f + r) (f + (2 * r + 1))) := by
 rw [siftDown]
 rw [dif_neg (by omega), if_neg (by simp only [Bool.and_eq_true, decide_eq_true_eq]; exact h1), if_neg (by rw [h2]; decide)]
theorem size_sift : ∀ (n r : Nat) (d : Array Piece), hi - r = n → (siftDown lt hi f r d).size = d.size := by
 intro n
 induction n using Nat.strongRecOn with
 | _ n ih =>
   intro r d hn
   rw [siftDown]
   split
   · rfl
   split
   · split
     · rfl
     split
     · rw [ih _ (by omega) _ _ rfl, size_swp]
     rfl
   split
   · rfl
   rw [ih _ (by omega) _ _ rfl, size_swp]
end
theorem C109 {u : Value} {d : Array Piece} {lo hi f : Nat} (hlo : lo ≤ 1000) (hb : f + hi ≤ d.size) (hl : d.size ≤ 1000) : Fn Tryz.prog 109 [srt u d] [.agg (dataW u), .v (.int .i64 lo), .v (.int .i64 hi), .v (.int .i64 f)] [] [srt u (Go.Sort.siftDown yB hi f lo d)] := by
 refine Spec.body Tryz.func109 rfl Tryz.ntmps109 (by simp) rfl ?_; intro S0 own0 v0 w0
 refine zA fun K hK => zB ?_
 refine yD (yO rfl rfl rfl sz114 rfl) ?_; simp only [nA, Nat.reduceBEq, Nat.reduceEqDiff, ↓reduceIte]
 refine zE (hK _ ?_); clear hK K; try simp only [nA, Nat.reduceBEq, Nat.reduceEqDiff, ↓reduceIte, Nat.reduceAdd, Nat.reduceSub]
 refine zA fun K hK => zB ?_
 refine zF (zC rfl rfl) ?_; simp only [nA, ↓reduceIte]
 refine zF (zD rfl rfl) ?_; simp only [nA]
 refine zE (hK _ ?_); clear hK K
 refine zN ?_
 refine yC (fun (q : Nat × Array Piece) => [(2, .v (.int .i64 hi)), (3, .v (.int .i64 f)), (4, .ptr 1 1 0 0), (8, .v (.int .i64 (q.1 : Nat)))]) (fun q => ⟨[(0, srt u q.2), (1, .own 114 [dataW u])], 2⟩) (fun q => q.1 ≤ 1000 ∧ q.2.size = d.size ∧ Go.Sort.siftDown yB hi f q.1 q.2 = Go.Sort.siftDown yB hi f lo d) (fun q => hi - q.1) (lo, d) ⟨by omega, rfl, rfl⟩ ⟨rfl, rfl, rfl, rfl, trivial⟩ rfl ?_; rintro ⟨r, dk⟩ ρ ⟨hr, hs, hO⟩; dsimp only at hr hs hO ⊢; simp only [updL]
 refine zN ?_
 refine zA fun K hK => zB ?_
 refine zF (zC rfl rfl) ?_; simp only [nA, ↓reduceIte]
 (refine zF (op_muli rfl rfl rfl (by omega)) ?_); try simp only [nA, Nat.reduceBEq, Nat.reduceEqDiff, ↓reduceIte, Nat.reduceAdd, Nat.reduceSub]
 (refine zF (zR rfl rfl rfl (by omega)) ?_); try simp only [nA, Nat.reduceBEq, Nat.reduceEqDiff, ↓reduceIte, Nat.reduceAdd, Nat.reduceSub]
 refine zF (zD rfl rfl) ?_; simp only [nA]
 refine zE (hK _ ?_); clear hK K
 refine zA fun K hK => ?_
 refine zA fun K hK => zB ?_
 refine zF (zC rfl rfl) ?_; simp only [nA]
 refine zF (zC rfl rfl) ?_; simp only [nA, ↓reduceIte]
 refine zF (op_geq rfl rfl rfl) ?_; try simp only [nA, Nat.reduceBEq, Nat.reduceEqDiff, ↓reduceIte, Nat.reduceAdd, Nat.reduceSub]
 refine zE (hK _ ?_); clear hK K
 refine zL rfl rfl rfl (fun hc => ?_) (fun hc => ?_)
 ·
  (try simp only [z7] at hc); have hc1 := hc
  refine yE ?_; try simp only [zI, zJ, Nat.reduceEqDiff, ↓reduceIte]
  clear hK K
  rw [← hO, sift_end (d := dk) (by omega)]; exact RQ.of (by exact .inr rfl) rfl .nil (by simp) rfl (one_out rfl)
 (try simp only [z7] at hc); have hc1 := hc
 refine zM ?_
 refine hK _ ?_; clear hK K
 refine zA fun K hK => ?_
 refine zA fun K hK => zB (yS ?_)
 refine zQ (zC rfl rfl) ?_; simp only [nA, ↓reduceIte]
 (refine zQ (zR rfl rfl rfl (by omega)) ?_); try simp only [nA, Nat.reduceBEq, Nat.reduceEqDiff, ↓reduceIte, Nat.reduceAdd, Nat.reduceSub]
 refine zQ (zC rfl rfl) ?_; simp only [nA, ↓reduceIte]
 refine zQ (yP rfl rfl rfl) ?_; try simp only [nA, Nat.reduceBEq, Nat.reduceEqDiff, ↓reduceIte, Nat.reduceAdd, Nat.reduceSub]
 refine zQ (zC rfl rfl) ?_; simp only [nA]
 refine' yK [_, _, _, _, _, _, _, _, _, _] [22,23,24,25,26,27,28,29,30,31] rfl rfl rfl rfl rfl rfl rfl rfl rfl rfl rfl rfl (fun hb => ?_) ?_; rotate_left
 ·
  (try simp only [z7] at hb)
  (refine zQ (zH rfl rfl rfl fl114_0 (by exact sz2) (by decide) rfl) ?_); try simp only [nA, Nat.reduceBEq, Nat.reduceEqDiff, ↓reduceIte, Nat.reduceAdd, Nat.reduceSub]
  (refine aqR (zG rfl rfl rfl rfl ag87 rfl rfl) ?_); try simp only [nA, Nat.reduceBEq, Nat.reduceEqDiff, ↓reduceIte, Nat.reduceAdd, Nat.reduceSub]
  refine zQ (zC rfl rfl) ?_; simp only [nA, ↓reduceIte]
  refine zQ (zC rfl rfl) ?_; simp only [nA, ↓reduceIte]
  (refine zQ (zR rfl rfl rfl (by omega)) ?_); try simp only [nA, Nat.reduceBEq, Nat.reduceEqDiff, ↓reduceIte, Nat.reduceAdd, Nat.reduceSub]
  refine zQ (zC rfl rfl) ?_; simp only [nA, ↓reduceIte]
  refine zQ (zC rfl rfl) ?_; simp only [nA, ↓reduceIte]
  (refine zQ (zR rfl rfl rfl (by omega)) ?_); try simp only [nA, Nat.reduceBEq, Nat.reduceEqDiff, ↓reduceIte, Nat.reduceAdd, Nat.reduceSub]
  (refine zQ (zR rfl rfl rfl (by omega)) ?_); try simp only [nA, Nat.reduceBEq, Nat.reduceEqDiff, ↓reduceIte, Nat.reduceAdd, Nat.reduceSub]
  refine aqQ (op_lt (r := 0) (d := dk) rfl rfl rfl rfl rfl (by omega) (by omega) (by omega)) ?_; try simp only [nA, Nat.reduceBEq, Nat.reduceEqDiff, ↓reduceIte, Nat.reduceAdd, Nat.reduceSub]
  (refine yL rfl rfl rfl ?_; repeat (first | exact fun _ _ => rfl | refine zU rfl ?_))
 refine yN (hK _ ?_); clear hK K
 refine zL rfl rfl rfl (fun hc => ?_) (fun hc => ?_)
 ·
  (try simp only [z7] at hc); have hc2 := hc; have e1 : ((f : Int) + (r : Int)).toNat = f + r := (by omega); have e2 : ((f : Int) + (2 * (r : Int) + 1)).toNat = f + (2 * r + 1) := (by omega); have e3 : ((f : Int) + (2 * (r : Int) + 1) + 1).toNat = f + (2 * r + 1) + 1 := (by omega); have e4 : ((f : Int) + (2 * (r : Int) + 1 + 1)).toNat = f + (2 * r + 2) := (by omega); simp only [Bool.and_eq_true, decide_eq_true_eq, e2, e3] at hc hc2
  refine zB ?_
  refine zF (zC rfl rfl) ?_; simp only [nA, Nat.reduceEqDiff, ↓reduceIte]
  (refine zF (zR rfl rfl rfl (by omega)) ?_); try simp only [nA, Nat.reduceBEq, Nat.reduceEqDiff, ↓reduceIte, Nat.reduceAdd, Nat.reduceSub]
  refine zF (zD rfl rfl) ?_; simp only [nA]
  refine zE (hK _ ?_); clear hK K
  refine zA fun K hK => ?_
  refine zA fun K hK => zB ?_
  (refine zF (zH rfl rfl rfl fl114_0 (by exact sz2) (by decide) rfl) ?_); try simp only [nA, Nat.reduceBEq, Nat.reduceEqDiff, ↓reduceIte, Nat.reduceAdd, Nat.reduceSub]
  (refine awR (zG rfl rfl rfl rfl ag87 rfl rfl) ?_); try simp only [nA, Nat.reduceBEq, Nat.reduceEqDiff, ↓reduceIte, Nat.reduceAdd, Nat.reduceSub]
  refine zF (zC rfl rfl) ?_; simp only [nA, Nat.reduceEqDiff, ↓reduceIte]
  refine zF (zC rfl rfl) ?_; simp only [nA, Nat.reduceEqDiff, ↓reduceIte]
  (refine zF (zR rfl rfl rfl (by omega)) ?_); try simp only [nA, Nat.reduceBEq, Nat.reduceEqDiff, ↓reduceIte, Nat.reduceAdd, Nat.reduceSub]
  refine zF (zC rfl rfl) ?_; simp only [nA, Nat.reduceEqDiff, ↓reduceIte]
  refine zF (zC rfl rfl) ?_; simp only [nA, ↓reduceIte]
  (refine zF (zR rfl rfl rfl (by omega)) ?_); try simp only [nA, Nat.reduceBEq, Nat.reduceEqDiff, ↓reduceIte, Nat.reduceAdd, Nat.reduceSub]
  refine yD (OpQ.j (op_lt (r := 0) (d := dk) rfl rfl rfl rfl rfl (by omega) (by omega) (by omega))) ?_; try simp only [nA, Nat.reduceBEq, Nat.reduceEqDiff, ↓reduceIte, Nat.reduceAdd, Nat.reduceSub]
  refine zF (op_not rfl rfl rfl) ?_; try simp only [nA, Nat.reduceBEq, Nat.reduceEqDiff, ↓reduceIte, Nat.reduceAdd, Nat.reduceSub]
  refine zE (hK _ ?_); clear hK K
  refine zL rfl rfl rfl (fun hc => ?_) (fun hc => ?_)
  ·
   (try simp only [z7] at hc); have hc3 := hc; simp only [e1, e4] at hc hc3
   skip
   refine zO ?_; (try simp only [zI, zJ, Nat.reduceEqDiff, ↓reduceIte]); rw [← hO, sift_R0 (d := dk) (by omega) hc2.2 hc3]; exact RQ.of (by exact .inl rfl) rfl .nil (by simp) rfl (one_out rfl)
  (try simp only [z7] at hc); have hc3 := hc; simp only [e1, e4] at hc hc3
  refine zM ?_
  refine hK _ ?_; clear hK K
  refine zA fun K hK => zB ?_
  (refine zF (zH rfl rfl rfl fl114_1 (by exact sz2) (by decide) rfl) ?_); try simp only [nA, Nat.reduceBEq, Nat.reduceEqDiff, ↓reduceIte, Nat.reduceAdd, Nat.reduceSub]
  (refine awR (zG rfl rfl rfl rfl ag108 rfl rfl) ?_); try simp only [nA, Nat.reduceBEq, Nat.reduceEqDiff, ↓reduceIte, Nat.reduceAdd, Nat.reduceSub]
  refine zF (zC rfl rfl) ?_; simp only [nA, Nat.reduceEqDiff, ↓reduceIte]
  refine zF (zC rfl rfl) ?_; simp only [nA, Nat.reduceEqDiff, ↓reduceIte]
  (refine zF (zR rfl rfl rfl (by omega)) ?_); try simp only [nA, Nat.reduceBEq, Nat.reduceEqDiff, ↓reduceIte, Nat.reduceAdd, Nat.reduceSub]
  refine zF (zC rfl rfl) ?_; simp only [nA, Nat.reduceEqDiff, ↓reduceIte]
  refine zF (zC rfl rfl) ?_; simp only [nA, ↓reduceIte]
  (refine zF (zR rfl rfl rfl (by omega)) ?_); try simp only [nA, Nat.reduceBEq, Nat.reduceEqDiff, ↓reduceIte, Nat.reduceAdd, Nat.reduceSub]
  refine yD (op_sw (r := 0) (d := dk) rfl rfl rfl rfl rfl (by omega) (by omega) rfl) ?_; try simp only [nA, Nat.reduceBEq, Nat.reduceEqDiff, ↓reduceIte, Nat.reduceAdd, Nat.reduceSub]
  refine zE (hK _ ?_); clear hK K
  refine zB ?_
  refine zF (zC rfl rfl) ?_; simp only [nA, ↓reduceIte]
  refine zF (zD rfl rfl) ?_; simp only [nA]
  refine zE ?_
  (try simp only [zI, zJ, Nat.reduceEqDiff, ↓reduceIte])
  refine ⟨(2 * r + 2, Go.Sort.swp dk (f + r) (f + (2 * r + 2))), ⟨by omega, by simp [Go.Sort.size_swp, hs], by rw [← hO]; exact (sift_R1 (lt := yB) (hi := hi) (f := f) (r := r) (d := dk) (by omega) hc2.2 hc3).symm⟩, by omega, ⟨rfl, rfl, rfl, vint (by omega), trivial⟩, (by simp only [e1, e4]), (by trivial)⟩
 (try simp only [z7] at hc); have hc2 := hc; have e1 : ((f : Int) + (r : Int)).toNat = f + r := (by omega); have e2 : ((f : Int) + (2 * (r : Int) + 1)).toNat = f + (2 * r + 1) := (by omega); have e3 : ((f : Int) + (2 * (r : Int) + 1) + 1).toNat = f + (2 * r + 1) + 1 := (by omega); have e4 : ((f : Int) + (2 * (r : Int) + 1 + 1)).toNat = f + (2 * r + 2) := (by omega); simp only [Bool.and_eq_true, decide_eq_true_eq, e2, e3] at hc hc2
 refine zM ?_
 refine hK _ ?_; clear hK K
 refine zA fun K hK => ?_
 refine zA fun K hK => zB ?_
 (refine zF (zH rfl rfl rfl fl114_0 (by exact sz2) (by decide) rfl) ?_); try simp only [nA, Nat.reduceBEq, Nat.reduceEqDiff, ↓reduceIte, Nat.reduceAdd, Nat.reduceSub]
 (refine awR (zG rfl rfl rfl rfl ag87 rfl rfl) ?_); try simp only [nA, Nat.reduceBEq, Nat.reduceEqDiff, ↓reduceIte, Nat.reduceAdd, Nat.reduceSub]
 refine zF (zC rfl rfl) ?_; simp only [nA, Nat.reduceEqDiff, ↓reduceIte]
 refine zF (zC rfl rfl) ?_; simp only [nA, Nat.reduceEqDiff, ↓reduceIte]
 (refine zF (zR rfl rfl rfl (by omega)) ?_); try simp only [nA, Nat.reduceBEq, Nat.reduceEqDiff, ↓reduceIte, Nat.reduceAdd, Nat.reduceSub]
 refine zF (zC rfl rfl) ?_; simp only [nA, Nat.reduceEqDiff, ↓reduceIte]
 refine zF (zC rfl rfl) ?_; simp only [nA, Nat.reduceEqDiff, ↓reduceIte]
 (refine zF (zR rfl rfl rfl (by omega)) ?_); try simp only [nA, Nat.reduceBEq, Nat.reduceEqDiff, ↓reduceIte, Nat.reduceAdd, Nat.reduceSub]
 refine yD (OpQ.j (op_lt (r := 0) (d := dk) rfl rfl rfl rfl rfl (by omega) (by omega) (by omega))) ?_; try simp only [nA, Nat.reduceBEq, Nat.reduceEqDiff, ↓reduceIte, Nat.reduceAdd, Nat.reduceSub]
 refine zF (op_not rfl rfl rfl) ?_; try simp only [nA, Nat.reduceBEq, Nat.reduceEqDiff, ↓reduceIte, Nat.reduceAdd, Nat.reduceSub]
 refine zE (hK _ ?_); clear hK K
 refine zL rfl rfl rfl (fun hc => ?_) (fun hc => ?_)
 ·
  (try simp only [z7] at hc); have hc4 := hc; simp only [e1, e2] at hc hc4
  skip
  refine zO ?_; (try simp only [zI, zJ, Nat.reduceEqDiff, ↓reduceIte]); rw [← hO, sift_L0 (d := dk) (by omega) (by rintro ⟨h1, h2⟩; rcases hc2 with h | h; omega; rw [h] at h2; cases h2) hc4]; exact RQ.of (by exact .inl rfl) rfl .nil (by simp) rfl (one_out rfl)
 (try simp only [z7] at hc); have hc4 := hc; simp only [e1, e2] at hc hc4
 refine zM ?_
 refine hK _ ?_; clear hK K
 refine zA fun K hK => zB ?_
 (refine zF (zH rfl rfl rfl fl114_1 (by exact sz2) (by decide) rfl) ?_); try simp only [nA, Nat.reduceBEq, Nat.reduceEqDiff, ↓reduceIte, Nat.reduceAdd, Nat.reduceSub]
 (refine awR (zG rfl rfl rfl rfl ag108 rfl rfl) ?_); try simp only [nA, Nat.reduceBEq, Nat.reduceEqDiff, ↓reduceIte, Nat.reduceAdd, Nat.reduceSub]
 refine zF (zC rfl rfl) ?_; simp only [nA, Nat.reduceEqDiff, ↓reduceIte]
 refine zF (zC rfl rfl) ?_; simp only [nA, Nat.reduceEqDiff, ↓reduceIte]
 (refine zF (zR rfl rfl rfl (by omega)) ?_); try simp only [nA, Nat.reduceBEq, Nat.reduceEqDiff, ↓reduceIte, Nat.reduceAdd, Nat.reduceSub]
 refine zF (zC rfl rfl) ?_; simp only [nA, Nat.reduceEqDiff, ↓reduceIte]
 refine zF (zC rfl rfl) ?_; simp only [nA, Nat.reduceEqDiff, ↓reduceIte]
 (refine zF (zR rfl rfl rfl (by omega)) ?_); try simp only [nA, Nat.reduceBEq, Nat.reduceEqDiff, ↓reduceIte, Nat.reduceAdd, Nat.reduceSub]
 refine yD (op_sw (r := 0) (d := dk) rfl rfl rfl rfl rfl (by omega) (by omega) rfl) ?_; try simp only [nA, Nat.reduceBEq, Nat.reduceEqDiff, ↓reduceIte, Nat.reduceAdd, Nat.reduceSub]
 refine zE (hK _ ?_); clear hK K
 refine zB ?_
 refine zF (zC rfl rfl) ?_; simp only [nA, Nat.reduceEqDiff, ↓reduceIte]
 refine zF (zD rfl rfl) ?_; simp only [nA]
 refine zE ?_
 (try simp only [zI, zJ, Nat.reduceEqDiff, ↓reduceIte])
 refine ⟨(2 * r + 1, Go.Sort.swp dk (f + r) (f + (2 * r + 1))), ⟨by omega, by simp [Go.Sort.size_swp, hs], by rw [← hO]; exact (sift_L1 (lt := yB) (hi := hi) (f := f) (r := r) (d := dk) (by omega) (by rintro ⟨h1, h2⟩; rcases hc2 with h | h; omega; rw [h] at h2; cases h2) hc4).symm⟩, by omega, ⟨rfl, rfl, rfl, vint (by omega), trivial⟩, (by simp only [e1, e2]), (by trivial)⟩
set_option maxRecDepth 100000
theorem C109i {u : Value} {d : Array Piece} {l h g : Int} (lo hi f : Nat) (e1 : l = lo) (e2 : h = hi) (e3 : g = f) (hlo : lo ≤ 1000) (hb : f + hi ≤ d.size) (hl : d.size ≤ 1000) : Fn Tryz.prog 109 [srt u d] [.agg (dataW u), .v (.int .i64 l), .v (.int .i64 h), .v (.int .i64 g)] [] [srt u (Go.Sort.siftDown yB hi f lo d)] := by
 subst e1 e2 e3; exact C109 hlo hb hl
theorem en109 : zZ Tryz.prog 109 := enters_of Tryz.func109 (by kernel_rfl) rfl
theorem C96 {u : Value} {d : Array Piece} {a b : Nat} (hab : a < b) (hb : b ≤ d.size) (hl : d.size ≤ 1000) : Fn Tryz.prog 96 [srt u d] [.agg (dataW u), .v (.int .i64 a), .v (.int .i64 b)] [] [srt u (Go.Sort.heapSort yB d a b)] := by
 refine Spec.body Tryz.func96 rfl Tryz.ntmps96 (by simp) rfl ?_; intro S0 own0 v0 w0
 refine zA fun K hK => zB ?_
 refine yD (yO rfl rfl rfl sz114 rfl) ?_; simp only [nA, Nat.reduceBEq, Nat.reduceEqDiff, ↓reduceIte]
 refine zE (hK _ ?_); clear hK K; try simp only [nA, Nat.reduceBEq, Nat.reduceEqDiff, ↓reduceIte, Nat.reduceAdd, Nat.reduceSub]
 refine zA fun K hK => zB ?_
 refine zF (zC rfl rfl) ?_; simp only [nA, ↓reduceIte]
 refine zF (zD rfl rfl) ?_; simp only [nA]
 refine zE (hK _ ?_); clear hK K
 refine zA fun K hK => zB ?_
 refine zF (zD rfl rfl) ?_; try simp only [nA, Nat.reduceBEq, Nat.reduceEqDiff, ↓reduceIte, Nat.reduceAdd, Nat.reduceSub]
 refine zE (hK _ ?_); clear hK K
 refine zA fun K hK => zB ?_
 refine zF (zC rfl rfl) ?_; simp only [nA, ↓reduceIte]
 refine zF (zC rfl rfl) ?_; simp only [nA, ↓reduceIte]
 (refine zF (op_subi rfl rfl rfl (by omega)) ?_); try simp only [nA, Nat.reduceBEq, Nat.reduceEqDiff, ↓reduceIte, Nat.reduceAdd, Nat.reduceSub]
 refine zF (zD rfl rfl) ?_; simp only [nA]
 refine zE (hK _ ?_); clear hK K
 refine zA fun K hK => ?_
 refine zA fun K hK => zB ?_
 refine zF (zC rfl rfl) ?_; simp only [nA]
 (refine zF (op_subi rfl rfl rfl (by omega)) ?_); try simp only [nA, Nat.reduceBEq, Nat.reduceEqDiff, ↓reduceIte, Nat.reduceAdd, Nat.reduceSub]
 (refine zF (op_quoi rfl rfl rfl (by omega)) ?_); try simp only [nA, Nat.reduceBEq, Nat.reduceEqDiff, ↓reduceIte, Nat.reduceAdd, Nat.reduceSub]
 refine zF (zD rfl rfl) ?_; simp only [nA]
 refine zE (hK _ ?_); clear hK K
 refine zN ?_
 refine yC (fun (q : Nat × Array Piece) => [(3, .ptr 1 1 0 0), (6, .v (.int .i64 a)), (7, .v (.int .i64 0)), (8, .v (.int .i64 ((b - a : Nat) : Int))), (9, .v (.int .i64 ((q.1 : Nat) - 1 : Int)))]) (fun q => ⟨[(0, srt u q.2), (1, .own 114 [dataW u])], 2⟩) (fun q => q.1 ≤ (b - a - 1) / 2 + 1 ∧ q.2.size = d.size ∧ Go.Sort.heapBuild yB (b - a) a q.1 q.2 = Go.Sort.heapBuild yB (b - a) a ((b - a - 1) / 2 + 1) d) (fun q => q.1) ((b - a - 1) / 2 + 1, d) ⟨by omega, rfl, rfl⟩ ⟨rfl, rfl, rfl, vint (by omega), vint (by omega), trivial⟩ rfl ?_; rintro ⟨k, dk⟩ ρ ⟨hk, hs, hO⟩; dsimp only at hk hs hO ⊢; simp only [updL]
 refine zA fun K hK => ?_
 refine zA fun K hK => zB ?_
 refine zF (zC rfl rfl) ?_; simp only [nA, ↓reduceIte]
 refine zF (op_geq rfl rfl rfl) ?_; try simp only [nA, Nat.reduceBEq, Nat.reduceEqDiff, ↓reduceIte, Nat.reduceAdd, Nat.reduceSub]
 refine zE (hK _ ?_); clear hK K
 refine zL rfl rfl rfl (fun hc => ?_) (fun hc => ?_)
 ·
  (try simp only [z7] at hc); have hc1 := hc; have hk0 : 0 < k := by omega
  refine zM ?_
  refine hK _ ?_; clear hK K
  refine zA fun K hK => zN ?_
  refine zB ?_
  (refine awR (zK rfl rfl rfl rfl ag114 sz114 (bl rfl) rfl) ?_); try simp only [nA, Nat.reduceBEq, Nat.reduceEqDiff, ↓reduceIte, Nat.reduceAdd, Nat.reduceSub]
  refine zF (zC rfl rfl) ?_; simp only [nA, ↓reduceIte]
  refine zF (zC rfl rfl) ?_; simp only [nA, ↓reduceIte]
  refine zF (zC rfl rfl) ?_; simp only [nA, ↓reduceIte]
  refine yD (op_callN (r := 0) rfl en109 (C109i (d := dk) (k - 1) (b - a) a (by omega) (by omega) (by omega) (by omega) (by omega) (by omega)) rfl (RL.cons (.base (.same rfl)) (RL.cons (.base (.same rfl)) (RL.cons (.base (.same rfl)) (RL.cons (.base (.same rfl)) RL.nil)))) ⟨_, _, _, _, rfl, rfl⟩ rfl rfl rfl) ?_; try simp only [nA, Nat.reduceBEq, Nat.reduceEqDiff, ↓reduceIte, Nat.reduceAdd, Nat.reduceSub]
  refine zE ?_
  (try simp only [zI, zJ, Nat.reduceEqDiff, ↓reduceIte])
  refine hK _ ?_; clear hK K
  refine zB ?_
  refine zF (zC rfl rfl) ?_; simp only [nA, ↓reduceIte]
  (refine zF (op_subi rfl rfl rfl (by omega)) ?_); try simp only [nA, Nat.reduceBEq, Nat.reduceEqDiff, ↓reduceIte, Nat.reduceAdd, Nat.reduceSub]
  refine zF (zD rfl rfl) ?_; simp only [nA]
  skip
  refine zE ?_
  refine ⟨(k - 1, Go.Sort.siftDown yB (b - a) a (k - 1) dk), ⟨by omega, by rw [size_sift _ _ _ rfl, hs], ?_⟩, by omega, ⟨rfl, rfl, rfl, rfl, vint (by omega), trivial⟩, rfl, (by rfl)⟩; rw [← hO]; obtain ⟨k, rfl⟩ : ∃ q, k = q + 1 := ⟨k - 1, by omega⟩; rfl
 (try simp only [z7] at hc); have hc1 := hc; have hk0 : k = 0 := (by omega); subst hk0
 refine yE ?_; try simp only [zI, zJ, Nat.reduceEqDiff, ↓reduceIte]
 clear hK K
 refine hK _ ?_; clear hK K
 refine zA fun K hK => zB ?_
 refine zF (zC rfl rfl) ?_; simp only [nA, ↓reduceIte]
 (refine zF (op_subi rfl rfl rfl (by omega)) ?_); try simp only [nA, Nat.reduceBEq, Nat.reduceEqDiff, ↓reduceIte, Nat.reduceAdd, Nat.reduceSub]
 refine zF (zD rfl rfl) ?_; simp only [nA]
 refine zE (hK _ ?_); clear hK K
 refine zN ?_
 refine yC (fun (q : Nat × Array Piece) => [(3, .ptr 1 1 0 0), (6, .v (.int .i64 a)), (7, .v (.int .i64 0)), (8, .v (.int .i64 ((b - a : Nat) : Int))), (10, .v (.int .i64 ((q.1 : Nat) - 1 : Int)))]) (fun q => ⟨[(0, srt u q.2), (1, .own 114 [dataW u])], 2⟩) (fun q => q.1 ≤ b - a ∧ q.2.size = d.size ∧ Go.Sort.heapPop yB a q.1 q.2 = Go.Sort.heapSort yB d a b) (fun q => q.1) (b - a, dk) ⟨by omega, hs, by unfold Go.Sort.heapSort; rw [← hO]; rfl⟩ ⟨rfl, rfl, rfl, rfl, vint (by omega), trivial⟩ rfl ?_; rintro ⟨m, dm⟩ ρ ⟨hm, hs2, hP⟩; dsimp only at hm hs2 hP ⊢; simp only [updL]
 refine zA fun K hK => ?_
 refine zA fun K hK => zB ?_
 refine zF (zC rfl rfl) ?_; simp only [nA, ↓reduceIte]
 refine zF (op_geq rfl rfl rfl) ?_; try simp only [nA, Nat.reduceBEq, Nat.reduceEqDiff, ↓reduceIte, Nat.reduceAdd, Nat.reduceSub]
 refine zE (hK _ ?_); clear hK K
 refine zL rfl rfl rfl (fun hc => ?_) (fun hc => ?_)
 ·
  (try simp only [z7] at hc); have hc2 := hc; have hm0 : 0 < m := by omega
  refine zM ?_
  refine hK _ ?_; clear hK K
  refine zA fun K hK => zN ?_
  refine zA fun K hK => zB ?_
  (refine zF (zH rfl rfl rfl fl114_1 (by exact sz2) (by decide) rfl) ?_); try simp only [nA, Nat.reduceBEq, Nat.reduceEqDiff, ↓reduceIte, Nat.reduceAdd, Nat.reduceSub]
  (refine awR (zG rfl rfl rfl rfl ag108 rfl rfl) ?_); try simp only [nA, Nat.reduceBEq, Nat.reduceEqDiff, ↓reduceIte, Nat.reduceAdd, Nat.reduceSub]
  refine zF (zC rfl rfl) ?_; simp only [nA, ↓reduceIte]
  refine zF (zC rfl rfl) ?_; simp only [nA, ↓reduceIte]
  refine zF (zC rfl rfl) ?_; simp only [nA, ↓reduceIte]
  (refine zF (zR rfl rfl rfl (by omega)) ?_); try simp only [nA, Nat.reduceBEq, Nat.reduceEqDiff, ↓reduceIte, Nat.reduceAdd, Nat.reduceSub]
  refine yD (op_sw (r := 0) (d := dm) rfl rfl rfl rfl rfl (by omega) (by omega) rfl) ?_; try simp only [nA, Nat.reduceBEq, Nat.reduceEqDiff, ↓reduceIte, Nat.reduceAdd, Nat.reduceSub]
  refine zE (hK _ ?_); clear hK K
  refine zB ?_
  (refine awR (zK rfl rfl rfl rfl ag114 sz114 (bl rfl) rfl) ?_); try simp only [nA, Nat.reduceBEq, Nat.reduceEqDiff, ↓reduceIte, Nat.reduceAdd, Nat.reduceSub]
  refine zF (zC rfl rfl) ?_; simp only [nA, ↓reduceIte]
  refine zF (zC rfl rfl) ?_; simp only [nA, ↓reduceIte]
  refine zF (zC rfl rfl) ?_; simp only [nA, ↓reduceIte]
  refine yD (op_callN (r := 0) rfl en109 (C109i (d := Go.Sort.swp dm ((a : Int)).toNat ((a : Int) + ((m : Int) - 1)).toNat) 0 (m - 1) a (by omega) (by omega) (by omega) (by omega) (by rw [Go.Sort.size_swp]; omega) (by rw [Go.Sort.size_swp]; omega)) rfl (RL.cons (.base (.same rfl)) (RL.cons (.base (.same rfl)) (RL.cons (.base (.same rfl)) (RL.cons (.base (.same rfl)) RL.nil)))) ⟨_, _, _, _, rfl, rfl⟩ rfl rfl rfl) ?_; try simp only [nA, Nat.reduceBEq, Nat.reduceEqDiff, ↓reduceIte, Nat.reduceAdd, Nat.reduceSub]
  refine zE ?_
  (try simp only [zI, zJ, Nat.reduceEqDiff, ↓reduceIte])
  refine hK _ ?_; clear hK K
  refine zB ?_
  refine zF (zC rfl rfl) ?_; simp only [nA, ↓reduceIte]
  (refine zF (op_subi rfl rfl rfl (by omega)) ?_); try simp only [nA, Nat.reduceBEq, Nat.reduceEqDiff, ↓reduceIte, Nat.reduceAdd, Nat.reduceSub]
  refine zF (zD rfl rfl) ?_; simp only [nA]
  skip
  refine zE ?_
  refine ⟨(m - 1, Go.Sort.siftDown yB (m - 1) a 0 (Go.Sort.swp dm a (a + (m - 1)))), ⟨by omega, by rw [size_sift _ _ _ rfl, Go.Sort.size_swp, hs2], ?_⟩, by omega, ⟨rfl, rfl, rfl, rfl, vint (by omega), trivial⟩, (by rw [show ((a : Int)).toNat = a by omega, show ((a : Int) + ((m : Int) - 1)).toNat = a + (m - 1) by omega]), (by rfl)⟩; rw [← hP]; obtain ⟨m, rfl⟩ : ∃ q, m = q + 1 := ⟨m - 1, by omega⟩; rfl
 (try simp only [z7] at hc); have hc2 := hc; have hm0 : m = 0 := (by omega); subst hm0
 refine yE ?_; try simp only [zI, zJ, Nat.reduceEqDiff, ↓reduceIte]
 clear hK K
 rw [← hP]; exact RQ.of (.inr rfl) rfl .nil (by simp) rfl (one_out rfl)
end Go.Proofs.YtmdohphcolffmaaGreat
namespace Go.Proofs.YtmdohphcolffmaaGreat
set_option maxHeartbeats 8000000
open Go.RowKit Go.Shelf
section
open Go.Sort
theorem Fn.ofK {f : FuncId} {u : Value} {d d' : Array Piece} {x y : Value} (h0 : 0 < d.size) (hs : d'.size = d.size)
   (hK : ∀ (w : World) (blk c : Nat) (lb : Array Value), u = .slice (some ⟨blk, 0, none⟩) d.size c → HoldsK encP 5 w blk 0 d → blk < w.heap.size →
     Calls Tryz.prog f #[.agg #[.func (.func 48) #[] lb, .func (.func 92) #[] #[.slice (some ⟨blk, 0, none⟩) d.size c, th41]], x, y] w fun e w' => e = .returned (.tuple #[]) ∧ ∃ n os, w' = sortWorldK encP 5 w blk 0 n d' os) :
   Fn Tryz.prog f [srt u d] [.agg (dataW u), .v x, .v y] [] [srt u d'] := by
 intro w S vals bss vs hc
 obtain ⟨v, rfl⟩ : ∃ v, vals = [v] := by
   match vals, hc.nv with
   | [v], _ => exact ⟨v, rfl⟩
 obtain ⟨bs, rfl⟩ : ∃ b, bss = [b] := by
   match bss, hc.nb with
   | [b], _ => exact ⟨b, rfl⟩
 have hrep := hc.rep 0 _ v bs rfl rfl rfl
 have hnm : v = u ∧ Rep Tryz.prog S w bs u (.own 35 (rowsP d)) := by
   cases hrep with
   | nm h => exact ⟨rfl, h⟩
 obtain ⟨rfl, hr1⟩ := hnm
 obtain ⟨g, cap, cur, hu, hg, c1, c2, c3, c4, hbs⟩ := repK_inv (enc := encP) (k := 5) (ds := d.toList) (fun _ => rfl) hr1 yR (by simpa using h0)
 subst hbs
 obtain ⟨v1, v2, v3, rfl⟩ : ∃ v1 v2 v3, vs = [v1, v2, v3] := by
   match vs, hc.args.1 with
   | [v1, v2, v3], _ => exact ⟨v1, v2, v3, rfl⟩
 obtain ⟨us, rfl, rl⟩ := (show ∃ us, v1 = .agg us ∧ RL (RefOK Tryz.prog S w (insT [srt v d]) [v]) us.toList (dataW v) from hc.args.2 0 v1 _ rfl rfl)
 have e2 : v2 = x := (show Rep Tryz.prog S w [] v2 (.v x) from hc.args.2 1 v2 _ rfl rfl).v_inv.1
 have e3 : v3 = y := (show Rep Tryz.prog S w [] v3 (.v y) from hc.args.2 2 v3 _ rfl rfl).v_inv.1
 subst e2 e3
 obtain ⟨us, rfl⟩ : ∃ l : List Value, us = l.toArray := ⟨us.toList, by simp⟩
 simp only [List.toList_toArray] at rl
 obtain ⟨f1, f2, rfl⟩ : ∃ f1 f2, us = [f1, f2] := by
   match us, rl.1 with
   | [f1, f2], _ => exact ⟨f1, f2, rfl⟩
 obtain ⟨lb, rfl, -, -⟩ := (show Rep Tryz.prog S w [] f1 (.clo 48 [.rop [.v v]]) from rl.2 0 f1 _ rfl rfl).clo_inv
 obtain ⟨sb, rfl, sl, sr⟩ := (show Rep Tryz.prog S w [] f2 (.clo 92 [.v v, .v th41]) from rl.2 1 f2 _ rfl rfl).clo_inv
 obtain ⟨s1, s2, rfl⟩ : ∃ s1 s2, sb = [s1, s2] := by
   match sb, sl with
   | [s1, s2], _ => exact ⟨s1, s2, rfl⟩
 have e4 := (sr 0 s1 (.v v) rfl rfl).v_inv.1
 have e5 := (sr 1 s2 (.v th41) rfl rfl).v_inv.1
 subst e4 e5
 have hld : d.toList.length = d.size := Array.length_toList
 rw [hld] at hu c1 c4
 subst hu
 have hH : HoldsK encP 5 w g 0 d := by
   have := holdsKE (enc := encP) (k := 5) (ds := d.toList) (fun _ => rfl) hg (by rw [hld]; exact c4)
   simpa using this
 have hlt : g < w.heap.size := (Array.getElem?_eq_some_iff.1 hg).1
 refine (hK w g cap lb.toArray rfl hH hlt).mono ?_
 rintro e w' ⟨rfl, n, os, rfl⟩
 have hin : ∀ q, InL [[g]] q ↔ q = g := fun q => by
   constructor
   · rintro ⟨i, b1, h1, h2⟩
     cases i with
     | zero => simp at h1; subst h1; simpa using h2
     | succ i => simp at h1
   rintro rfl; exact ⟨0, [q], rfl, by simp⟩
 have hkept : Kept (fun q => q ≠ g) w (sortWorldK encP 5 w g 0 n d' os) := keptE (enc := id) (flatK encP 5 d')
 have hhp := heapE (enc := id) (n := n) (os := os) (flatK encP 5 d') hg
 have hld' : d'.toList.length = d'.size := Array.length_toList
 refine ⟨[], [], [srt (.slice (some ⟨g, 0, none⟩) d.size cap) d'], [], [[g]], rfl, ⟨hkept.mono fun q _ h e => h ((hin q).2 e), rfl, rfl, rfl, rfl, fun i u y bs h => by simp at h, fun r x v bs h1 h2 h3 => ?_, ⟨fun r b h => ?_, fun r r' b b' hne h1 h2 => ?_⟩, fun b h => .inr h⟩, rfl, rfl⟩
 · cases r with
   | succ r => simp at h1
   | zero =>
     simp at h1 h2 h3
     subst h1 h2 h3
     have ht := takeKE (enc := encP) (k := 5) (fun _ => rfl) cur d'.toList (by rw [hld', hs, c3]; omega)
     have := repK (enc := encP) (k := 5) (P := Tryz.prog) (S := After S w (sortWorldK encP 5 w g 0 n d' os) [[g]] ([] ++ [[g]])) (w := sortWorldK encP 5 w g 0 n d' os) (e := 35) (ds := d'.toList) (fun _ => rfl) one_encP yR hhp (by rw [hld', hs]; exact c1) c2 (by simp [putCells, c3]) (by simpa using ht)
     rw [hld', hs] at this
     exact .nm this
 · cases r with
   | zero => simp at h; subst h; simp
   | succ r => simp at h
 cases r with
 | zero => cases r' with
   | zero => exact absurd rfl hne
   | succ r' => simp at h2
 | succ r => simp at h1
end
end Go.Proofs.YtmdohphcolffmaaGreat
namespace Go.Proofs.YtmdohphcolffmaaGreat
set_option maxHeartbeats 8000000
open Go.RowKit Go.Shelf
def laysGg6_ren : Go.Shelf.Ren := ⟨fun | 6 => 47 | 10 => 68 | 11 => 69 | 12 => 70 | 13 => 71 | 14 => 72 | 24 => 93 | 25 => 94 | 26 => 95 | 27 => 96 | 28 => 97 | 29 => 98 | 30 => 99 | 31 => 100 | 32 => 101 | 33 => 102 | 34 => 109 | 35 => 110 | 36 => 111 | 37 => 112 | 38 => 113 | 39 => 118 | n => n, fun | 20 => 20 | 26 => 87 | 35 => 106 | 0 => 0 | 37 => 108 | 3 => 3 | 41 => 111 | 44 => 114 | 49 => 125 | 51 => 127 | 4 => 4 | 54 => 130 | 53 => 129 | 58 => 78 | 5 => 5 | 9 => 9 | 60 => 138 | 64 => 142 | 66 => 146 | 67 => 147 | 17 => 17 | 32 => 103 | 33 => 104 | 82 => 164 | 12 => 12 | 75 => 157 | 76 => 158 | 77 => 159 | 78 => 160 | 79 => 161 | 80 => 162 | n => n, fun | n => n⟩
theorem laysGg6 : Go.Proofs.LaysGg.n6 Tryz.prog laysGg6_ren := {
 mixed := by kernel_rfl
 f6 := Tryz.func47.trans (congrArg some (by kernel_rfl))
 f10 := Tryz.func68.trans (congrArg some (by kernel_rfl))
 f11 := Tryz.func69.trans (congrArg some (by kernel_rfl))
 f12 := Tryz.func70.trans (congrArg some (by kernel_rfl))
 f13 := Tryz.func71.trans (congrArg some (by kernel_rfl))
 f14 := Tryz.func72.trans (congrArg some (by kernel_rfl))
 f24 := Tryz.func93.trans (congrArg some (by kernel_rfl))
 f25 := Tryz.func94.trans (congrArg some (by kernel_rfl))
 f26 := Tryz.func95.trans (congrArg some (by kernel_rfl))
 f27 := Tryz.func96.trans (congrArg some (by kernel_rfl))
 f28 := Tryz.func97.trans (congrArg some (by kernel_rfl))
 f29 := Tryz.func98.trans (congrArg some (by kernel_rfl))
 f30 := Tryz.func99.trans (congrArg some (by kernel_rfl))
 f31 := Tryz.func100.trans (congrArg some (by kernel_rfl))
 f32 := Tryz.func101.trans (congrArg some (by kernel_rfl))
 f33 := Tryz.func102.trans (congrArg some (by kernel_rfl))
 f34 := Tryz.func109.trans (congrArg some (by kernel_rfl))
 f35 := Tryz.func110.trans (congrArg some (by kernel_rfl))
 f36 := Tryz.func111.trans (congrArg some (by kernel_rfl))
 f37 := Tryz.func112.trans (congrArg some (by kernel_rfl))
 f38 := Tryz.func113.trans (congrArg some (by kernel_rfl))
 f39 := Tryz.func118.trans (congrArg some (by kernel_rfl))
 t0 := Tryz.underlying0
 a0 := Tryz.isAgg0
 z0 := Tryz.sizeOf0
 v0 := Tryz.zeroValue0
 i0 := by kernel_rfl
 t3 := Tryz.underlying3
 a3 := Tryz.isAgg3
 z3 := Tryz.sizeOf3
 v3 := Tryz.zeroValue3
 i3 := by kernel_rfl
 t4 := Tryz.underlying4
 a4 := Tryz.isAgg4
 z4 := Tryz.sizeOf4
 v4 := Tryz.zeroValue4
 i4 := by kernel_rfl
 t5 := Tryz.underlying5
 a5 := Tryz.isAgg5
 z5 := Tryz.sizeOf5
 v5 := Tryz.zeroValue5
 i5 := by kernel_rfl
 t9 := Tryz.underlying9
 a9 := Tryz.isAgg9
 z9 := Tryz.sizeOf9
 v9 := Tryz.zeroValue9
 i9 := by kernel_rfl
 t12 := Tryz.underlying12
 a12 := Tryz.isAgg12
 z12 := Tryz.sizeOf12
 v12 := Tryz.zeroValue12
 i12 := by kernel_rfl
 t17 := Tryz.underlying17
 a17 := Tryz.isAgg17
 z17 := Tryz.sizeOf17
 v17 := Tryz.zeroValue17
 i17 := by kernel_rfl
 t20 := Tryz.underlying20
 a20 := Tryz.isAgg20
 z20 := Tryz.sizeOf20
 v20 := Tryz.zeroValue20
 i20 := by kernel_rfl
 t26 := Tryz.underlying87
 a26 := Tryz.isAgg87
 z26 := Tryz.sizeOf87
 v26 := Tryz.zeroValue87
 i26 := by kernel_rfl
 t32 := Tryz.underlying103
 a32 := Tryz.isAgg103
 z32 := Tryz.sizeOf103
 v32 := Tryz.zeroValue103
 i32 := by kernel_rfl
 t33 := Tryz.underlying104
 a33 := Tryz.isAgg104
 z33 := Tryz.sizeOf104
 v33 := Tryz.zeroValue104
 i33 := by kernel_rfl
 t35 := Tryz.underlying106
 a35 := Tryz.isAgg106
 z35 := Tryz.sizeOf106
 v35 := Tryz.zeroValue106
 i35 := by kernel_rfl
 t37 := Tryz.underlying108
 a37 := Tryz.isAgg108
 z37 := Tryz.sizeOf108
 v37 := Tryz.zeroValue108
 i37 := by kernel_rfl
 t41 := Tryz.underlying111
 a41 := Tryz.isAgg111
 z41 := Tryz.sizeOf111
 v41 := Tryz.zeroValue111
 i41 := by kernel_rfl
 t44 := Tryz.underlying114
 a44 := Tryz.isAgg114
 z44 := Tryz.sizeOf114
 v44 := Tryz.zeroValue114
 i44 := by kernel_rfl
 t49 := Tryz.underlying125
 a49 := Tryz.isAgg125
 z49 := Tryz.sizeOf125
 v49 := Tryz.zeroValue125
 i49 := by kernel_rfl
 t51 := Tryz.underlying127
 a51 := Tryz.isAgg127
 z51 := Tryz.sizeOf127
 v51 := Tryz.zeroValue127
 i51 := by kernel_rfl
 t53 := Tryz.underlying129
 a53 := Tryz.isAgg129
 z53 := Tryz.sizeOf129
 v53 := Tryz.zeroValue129
 i53 := by kernel_rfl
 t54 := Tryz.underlying130
 a54 := Tryz.isAgg130
 z54 := Tryz.sizeOf130
 v54 := Tryz.zeroValue130
 i54 := by kernel_rfl
 t58 := Tryz.underlying78
 a58 := Tryz.isAgg78
 z58 := Tryz.sizeOf78
 v58 := Tryz.zeroValue78
 i58 := by kernel_rfl
 t60 := Tryz.underlying138
 a60 := Tryz.isAgg138
 z60 := Tryz.sizeOf138
 v60 := Tryz.zeroValue138
 i60 := by kernel_rfl
 t64 := Tryz.underlying142
 a64 := Tryz.isAgg142
 z64 := Tryz.sizeOf142
 v64 := Tryz.zeroValue142
 i64 := by kernel_rfl
 t66 := Tryz.underlying146
 a66 := Tryz.isAgg146
 z66 := Tryz.sizeOf146
 v66 := Tryz.zeroValue146
 i66 := by kernel_rfl
 t67 := Tryz.underlying147
 a67 := Tryz.isAgg147
 z67 := Tryz.sizeOf147
 v67 := Tryz.zeroValue147
 i67 := by kernel_rfl
 t75 := Tryz.underlying157
 a75 := Tryz.isAgg157
 z75 := Tryz.sizeOf157
 v75 := Tryz.zeroValue157
 i75 := by kernel_rfl
 t76 := Tryz.underlying158
 a76 := Tryz.isAgg158
 z76 := Tryz.sizeOf158
 v76 := Tryz.zeroValue158
 i76 := by kernel_rfl
 t77 := Tryz.underlying159
 a77 := Tryz.isAgg159
 z77 := Tryz.sizeOf159
 v77 := Tryz.zeroValue159
 i77 := by kernel_rfl
 t78 := Tryz.underlying160
 a78 := Tryz.isAgg160
 z78 := Tryz.sizeOf160
 v78 := Tryz.zeroValue160
 i78 := by kernel_rfl
 t79 := Tryz.underlying161
 a79 := Tryz.isAgg161
 z79 := Tryz.sizeOf161
 v79 := Tryz.zeroValue161
 i79 := by kernel_rfl
 t80 := Tryz.underlying162
 a80 := Tryz.isAgg162
 z80 := Tryz.sizeOf162
 v80 := Tryz.zeroValue162
 i80 := by kernel_rfl
 t82 := Tryz.underlying164
 a82 := Tryz.isAgg164
 z82 := Tryz.sizeOf164
 v82 := Tryz.zeroValue164
 i82 := by kernel_rfl }
theorem C99 {u : Value} {d : Array Piece} {a b : Nat} (h0 : 0 < d.size) (hab : a ≤ b) (hb : b ≤ d.size) (hl : d.size ≤ 1000) : Fn Tryz.prog 99 [srt u d] [.agg (dataW u), .v (.int .i64 a), .v (.int .i64 b)] [] [srt u (Go.Sort.reverseRange d a b)] :=
 Fn.ofK h0 (Go.Sort.reverseRange_holds d a b hab hb).1 fun w blk c lb hu hH hblk => Any.reverseRange_func_cells_w { laysGg6 with } encP 5 (fun _ => rfl) (.func 48) #[] lb 92 _ blk 0 a b d w (swp71 blk d.size c) hH hblk hab hb (by omega)
theorem C97 {u : Value} {d : Array Piece} {a b : Nat} (h0 : 0 < d.size) (hab : a ≤ b) (hb : b ≤ d.size) (hl : d.size ≤ 1000) : Fn Tryz.prog 97 [srt u d] [.agg (dataW u), .v (.int .i64 a), .v (.int .i64 b)] [] [srt u (Go.Sort.breakPatterns d a b)] :=
 Fn.ofK h0 (Go.Sort.breakPatterns_holds d a b hab hb).1 fun w blk c lb hu hH hblk => Any.breakPatterns_func_cells_w { laysGg6 with } encP 5 (fun _ => rfl) (.func 48) #[] lb 92 _ blk 0 a b d w (swp71 blk d.size c) hH hblk hab hb (by omega)
end Go.Proofs.YtmdohphcolffmaaGreat
namespace Go.Proofs.YtmdohphcolffmaaGreat
set_option maxHeartbeats 8000000
open Go.RowKit
set_option linter.unusedSimpArgs false
set_option linter.unusedVariables false
set_option maxRecDepth 100000
theorem C118 {u : Value} {d : Array Piece} {a b s : Nat} (ha : a < d.size) (hb : b < d.size) (hl : d.size ≤ 1000) (hs : s ≤ 1000) : Fn Tryz.prog 118 [.own 3 [[.v (.int .i64 s)]]] [.agg (dataR d u), .v (.int .i64 a), .v (.int .i64 b), .ptr 0 0 0 0] [.v (.int .i64 (Go.Sort.order2 yB d a b s).1), .v (.int .i64 (Go.Sort.order2 yB d a b s).2.1)] [.own 3 [[.v (.int .i64 (Go.Sort.order2 yB d a b s).2.2)]]] := by
 refine Spec.body Tryz.func118 rfl Tryz.ntmps118 (by simp) rfl ?_; intro S0 own0 v0 w0
 refine zA fun K hK => zB ?_
 refine yD (yO rfl rfl rfl sz114 rfl) ?_; simp only [nA, Nat.reduceBEq, Nat.reduceEqDiff, ↓reduceIte]
 refine zF (zD rfl rfl) ?_; try simp only [nA, Nat.reduceBEq, Nat.reduceEqDiff, ↓reduceIte, Nat.reduceAdd, Nat.reduceSub]
 refine zF (zD rfl rfl) ?_; try simp only [nA, Nat.reduceBEq, Nat.reduceEqDiff, ↓reduceIte, Nat.reduceAdd, Nat.reduceSub]
 refine zE (hK _ ?_); clear hK K; try simp only [nA, Nat.reduceBEq, Nat.reduceEqDiff, ↓reduceIte, Nat.reduceAdd, Nat.reduceSub]
 refine zA fun K hK => ?_
 refine zA fun K hK => zB ?_
 (refine zF (zH rfl rfl rfl fl114_0 (by exact sz2) (by decide) rfl) ?_); try simp only [nA, Nat.reduceBEq, Nat.reduceEqDiff, ↓reduceIte, Nat.reduceAdd, Nat.reduceSub]
 (refine awR (zG rfl rfl rfl rfl ag87 rfl rfl) ?_); try simp only [nA, Nat.reduceBEq, Nat.reduceEqDiff, ↓reduceIte, Nat.reduceAdd, Nat.reduceSub]
 refine zF (zC rfl rfl) ?_; simp only [nA, ↓reduceIte]
 refine zF (zC rfl rfl) ?_; simp only [nA, ↓reduceIte]
 refine yD (OpQ.j (op_ltR (d := d) rfl rfl rfl rfl hl (by omega) (by omega))) ?_; try simp only [nA, Nat.reduceBEq, Nat.reduceEqDiff, ↓reduceIte, Nat.reduceAdd, Nat.reduceSub]
 refine zE (hK _ ?_); clear hK K
 refine zL rfl rfl rfl (fun hc => ?_) (fun hc => ?_)
 ·
  (try simp only [z7] at hc); have hc1 := hc; simp only [Int.toNat_natCast] at hc
  refine zA fun K hK => zB ?_
  refine zF (zC rfl rfl) ?_; simp only [nA, ↓reduceIte]
  (refine zF (op_nil_slot rfl rfl rfl) ?_); try simp only [nA, Nat.reduceBEq, Nat.reduceEqDiff, ↓reduceIte, Nat.reduceAdd, Nat.reduceSub]
  (refine awR (zG rfl rfl rfl rfl ag3 rfl rfl) ?_); try simp only [nA, Nat.reduceBEq, Nat.reduceEqDiff, ↓reduceIte, Nat.reduceAdd, Nat.reduceSub]
  (refine zF (zR rfl rfl rfl (by omega)) ?_); try simp only [nA, Nat.reduceBEq, Nat.reduceEqDiff, ↓reduceIte, Nat.reduceAdd, Nat.reduceSub]
  (refine zF (op_nil_slot rfl rfl rfl) ?_); try simp only [nA, Nat.reduceBEq, Nat.reduceEqDiff, ↓reduceIte, Nat.reduceAdd, Nat.reduceSub]
  refine yD (z8 rfl rfl rfl rfl rfl rfl sz3 rfl (bl rfl) rfl) ?_; simp only [nA, ↓reduceIte]
  refine zE (hK _ ?_); clear hK K
  refine zA fun K hK => zB ?_
  refine zF (zC rfl rfl) ?_; simp only [nA, ↓reduceIte]
  refine zF (zC rfl rfl) ?_; simp only [nA, ↓reduceIte]
  refine zF (zD rfl rfl) ?_; simp only [nA, ↓reduceIte]
  refine zF (zD rfl rfl) ?_; simp only [nA, ↓reduceIte]
  refine zE (hK _ ?_); clear hK K
  skip
  refine zO ?_; (try simp only [zI, zJ, Nat.reduceEqDiff, ↓reduceIte]); rw [show Go.Sort.order2 yB d a b s = (b, a, s + 1) by unfold Go.Sort.order2; rw [if_pos hc]]; exact RQ.of (.inl rfl) rfl (.tmp (bl rfl) rfl rfl (.tmp (bl rfl) rfl rfl .nil)) (by simp) rfl (one_out rfl)
 (try simp only [z7] at hc); have hc1 := hc; simp only [Int.toNat_natCast] at hc
 refine zM ?_
 refine hK _ ?_; clear hK K
 refine zA fun K hK => zB ?_
 refine zF (zC rfl rfl) ?_; simp only [nA, ↓reduceIte]
 refine zF (zC rfl rfl) ?_; simp only [nA, ↓reduceIte]
 refine zF (zD rfl rfl) ?_; simp only [nA, ↓reduceIte]
 refine zF (zD rfl rfl) ?_; simp only [nA, ↓reduceIte]
 refine zE (hK _ ?_); clear hK K
 skip
 refine zO ?_; (try simp only [zI, zJ, Nat.reduceEqDiff, ↓reduceIte]); rw [show Go.Sort.order2 yB d a b s = (a, b, s) by unfold Go.Sort.order2; rw [if_neg (by rw [hc]; decide)]]; exact RQ.of (.inl rfl) rfl (.tmp (bl rfl) rfl rfl (.tmp (bl rfl) rfl rfl .nil)) (by simp) rfl (one_out rfl)
theorem o2b {lt : Piece → Piece → Bool} {d : Array Piece} {a b s n : Nat} (ha : a < n) (hb : b < n) : (Go.Sort.order2 lt d a b s).1 < n ∧ (Go.Sort.order2 lt d a b s).2.1 < n ∧ (Go.Sort.order2 lt d a b s).2.2 ≤ s + 1 := by
 unfold Go.Sort.order2
 split
 · exact ⟨hb, ha, Nat.le_refl _⟩
 exact ⟨ha, hb, Nat.le_succ _⟩
theorem en118 : zZ Tryz.prog 118 := enters_of Tryz.func118 (by kernel_rfl) rfl
theorem C113 {u : Value} {d : Array Piece} {a b c s : Nat} (ha : a < d.size) (hb : b < d.size) (hc : c < d.size) (hl : d.size ≤ 1000) (hs : s ≤ 100) : Fn Tryz.prog 113 [.own 3 [[.v (.int .i64 s)]]] [.agg (dataR d u), .v (.int .i64 a), .v (.int .i64 b), .v (.int .i64 c), .ptr 0 0 0 0] [.v (.int .i64 (Go.Sort.median yB d a b c s).1)] [.own 3 [[.v (.int .i64 (Go.Sort.median yB d a b c s).2)]]] := by
 have h1 := o2b (lt := yB) (d := d) (s := s) ha hb
 have h2 := o2b (lt := yB) (d := d) (s := (Go.Sort.order2 yB d a b s).2.2) h1.2.1 hc
 refine Spec.body Tryz.func113 rfl Tryz.ntmps113 (by simp) rfl ?_; intro S0 own0 v0 w0
 refine zA fun K hK => zB ?_
 refine yD (yO rfl rfl rfl sz114 rfl) ?_; simp only [nA, Nat.reduceBEq, Nat.reduceEqDiff, ↓reduceIte]
 refine zF (zD rfl rfl) ?_; try simp only [nA, Nat.reduceBEq, Nat.reduceEqDiff, ↓reduceIte, Nat.reduceAdd, Nat.reduceSub]
 refine zE (hK _ ?_); clear hK K; try simp only [nA, Nat.reduceBEq, Nat.reduceEqDiff, ↓reduceIte, Nat.reduceAdd, Nat.reduceSub]
 refine zA fun K hK => zB ?_
 (refine awR (zK rfl rfl rfl rfl ag114 sz114 (bl rfl) rfl) ?_); try simp only [nA, Nat.reduceBEq, Nat.reduceEqDiff, ↓reduceIte, Nat.reduceAdd, Nat.reduceSub]
 refine zF (zC rfl rfl) ?_; simp only [nA, ↓reduceIte]
 refine zF (zC rfl rfl) ?_; simp only [nA, ↓reduceIte]
 refine zF (zC rfl rfl) ?_; simp only [nA, ↓reduceIte]
 refine yD (yQ (r := 0) rfl en118 (C118 (u := u) (s := s) ha hb hl (by omega)) (by exact rfl) (RL.cons (.base (.same (by exact rfl))) (RL.cons (.base (.same (by exact rfl))) (RL.cons (.base (.same (by exact rfl))) (RL.cons .ptr RL.nil)))) (by exact ⟨_, _, _, rfl, rfl, rfl⟩) (by exact rfl) (by exact rfl) (by exact rfl)) ?_; try simp only [nA, Nat.reduceBEq, Nat.reduceEqDiff, ↓reduceIte, Nat.reduceAdd, Nat.reduceSub]
 refine zF (zC rfl rfl) ?_; simp only [nA]
 refine zF (z6 rfl rfl rfl) ?_; try simp only [nA, Nat.reduceBEq, Nat.reduceEqDiff, ↓reduceIte, Nat.reduceAdd, Nat.reduceSub]
 refine zF (z6 rfl rfl rfl) ?_; try simp only [nA, Nat.reduceBEq, Nat.reduceEqDiff, ↓reduceIte, Nat.reduceAdd, Nat.reduceSub]
 refine zF (zD rfl rfl) ?_; simp only [nA, ↓reduceIte]
 refine zF (zD rfl rfl) ?_; simp only [nA, ↓reduceIte]
 refine zE (hK _ ?_); clear hK K
 refine zA fun K hK => zB ?_
 (refine awR (zK rfl rfl rfl rfl ag114 sz114 (bl rfl) rfl) ?_); try simp only [nA, Nat.reduceBEq, Nat.reduceEqDiff, ↓reduceIte, Nat.reduceAdd, Nat.reduceSub]
 refine zF (zC rfl rfl) ?_; simp only [nA, ↓reduceIte]
 refine zF (zC rfl rfl) ?_; simp only [nA, ↓reduceIte]
 refine zF (zC rfl rfl) ?_; simp only [nA, ↓reduceIte]
 refine yD (yQ (r := 0) rfl en118 (C118 (u := u) (s := (Go.Sort.order2 yB d a b s).2.2) h1.2.1 hc hl (by omega)) (by exact rfl) (RL.cons (.base (.same (by exact rfl))) (RL.cons (.base (.same (by exact rfl))) (RL.cons (.base (.same (by exact rfl))) (RL.cons .ptr RL.nil)))) (by exact ⟨_, _, _, rfl, rfl, rfl⟩) (by exact rfl) (by exact rfl) (by exact rfl)) ?_; try simp only [nA, Nat.reduceBEq, Nat.reduceEqDiff, ↓reduceIte, Nat.reduceAdd, Nat.reduceSub]
 refine zF (zC rfl rfl) ?_; simp only [nA]
 refine zF (z6 rfl rfl rfl) ?_; try simp only [nA, Nat.reduceBEq, Nat.reduceEqDiff, ↓reduceIte, Nat.reduceAdd, Nat.reduceSub]
 refine zF (z6 rfl rfl rfl) ?_; try simp only [nA, Nat.reduceBEq, Nat.reduceEqDiff, ↓reduceIte, Nat.reduceAdd, Nat.reduceSub]
 refine zF (zD rfl rfl) ?_; simp only [nA, ↓reduceIte]
 refine zF (zD rfl rfl) ?_; simp only [nA, ↓reduceIte]
 refine zE (hK _ ?_); clear hK K
 refine zA fun K hK => zB ?_
 (refine awR (zK rfl rfl rfl rfl ag114 sz114 (bl rfl) rfl) ?_); try simp only [nA, Nat.reduceBEq, Nat.reduceEqDiff, ↓reduceIte, Nat.reduceAdd, Nat.reduceSub]
 refine zF (zC rfl rfl) ?_; simp only [nA, ↓reduceIte]
 refine zF (zC rfl rfl) ?_; simp only [nA, ↓reduceIte]
 refine zF (zC rfl rfl) ?_; simp only [nA, ↓reduceIte]
 refine yD (yQ (r := 0) rfl en118 (C118 (u := u) (s := (Go.Sort.order2 yB d (Go.Sort.order2 yB d a b s).2.1 c (Go.Sort.order2 yB d a b s).2.2).2.2) h1.1 h2.1 hl (by omega)) (by exact rfl) (RL.cons (.base (.same (by exact rfl))) (RL.cons (.base (.same (by exact rfl))) (RL.cons (.base (.same (by exact rfl))) (RL.cons .ptr RL.nil)))) (by exact ⟨_, _, _, rfl, rfl, rfl⟩) (by exact rfl) (by exact rfl) (by exact rfl)) ?_; try simp only [nA, Nat.reduceBEq, Nat.reduceEqDiff, ↓reduceIte, Nat.reduceAdd, Nat.reduceSub]
 refine zF (zC rfl rfl) ?_; simp only [nA]
 refine zF (z6 rfl rfl rfl) ?_; try simp only [nA, Nat.reduceBEq, Nat.reduceEqDiff, ↓reduceIte, Nat.reduceAdd, Nat.reduceSub]
 refine zF (z6 rfl rfl rfl) ?_; try simp only [nA, Nat.reduceBEq, Nat.reduceEqDiff, ↓reduceIte, Nat.reduceAdd, Nat.reduceSub]
 refine zF (zD rfl rfl) ?_; simp only [nA, ↓reduceIte]
 refine zF (zD rfl rfl) ?_; simp only [nA, ↓reduceIte]
 refine zE (hK _ ?_); clear hK K
 refine zA fun K hK => zB ?_
 refine zF (zC rfl rfl) ?_; simp only [nA]
 refine zF (zD rfl rfl) ?_; simp only [nA]
 refine zE (hK _ ?_); clear hK K
 skip
 refine zO ?_; (try simp only [zI, zJ, Nat.reduceEqDiff, ↓reduceIte]); exact RQ.of (.inl rfl) rfl (.tmp (bl rfl) rfl rfl .nil) (by simp) rfl (one_out rfl)
end Go.Proofs.YtmdohphcolffmaaGreat
