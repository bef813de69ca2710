import Derived.Test.YtmdohphcolffmaaCof
import Derived.Deep.Slices
import Derived.OpenShut
import Derived.WalkKit
import Derived.ProofKit
namespace Go.Proofs.Ytmdohphcolffmaa
open Go.RowKit
set_option linter.unusedSimpArgs false
set_option linter.unusedVariables false
set_option maxRecDepth 100000
structure BG (x : List Container) (y : List Piece) : Prop where
  good : GoodC x
  len : x.length ≤ 24
  no : ∀ b ∈ y, ∀ i, i < x.length → hasB (x.getD i default).pieces b.plate = false
  dis : DisP y
  pi : ∀ b ∈ y, piB b = true
theorem BG.perm {x : List Container} {y z : List Piece} (h : BG x y) (hp : z.Perm y) : BG x z :=
  ⟨h.good, h.len, fun b hb => h.no b (hp.subset hb), List.Pairwise.perm h.dis hp.symm (fun h e => h e.symm), fun b hb => h.pi b (hp.subset hb)⟩
theorem BG.ci {x : List Container} {y : List Piece} (h : BG x y) (f : Flight) (i : Nat) : CI x f (y.take i) (asgF f (x, []) (y.take i)) := by
  have := CI.fold (y.take i) (CI.start (f := f) h.good) (fun b hb => h.no b (List.mem_of_mem_take hb)) (by
    rw [List.nil_append]
    exact List.Pairwise.sublist (List.take_sublist i y) h.dis)
  rwa [List.nil_append] at this
theorem BG.ciAll {x : List Container} {y : List Piece} (h : BG x y) (f : Flight) : CI x f y (asgF f (x, []) y) := by
  have := h.ci f y.length
  rwa [List.take_length] at this
theorem BG.find {x : List Container} {y : List Piece} (h : BG x y) {b : Piece} (hb : b ∈ y) : (findL x b.plate).2 = false := find_no (h.no b hb)
theorem BG.asg {x : List Container} {y : List Piece} (h : BG x y) (f : Flight) : asgV x f y = ((asgF f (x, []) (ordV y)).1, (asgF f (x, []) (ordV y)).2, 0) :=
  asgV_ok (h.good.chk h.len) (asgE_0 h.dis h.pi fun b hb => h.find hb)
theorem BG.step {x : List Container} {y : List Piece} (h : BG x y) (f : Flight) {i : Nat} (hi : i < y.length) :
    GoodC (asgF f (x, []) (y.take i)).1 ∧ (asgF f (x, []) (y.take i)).1.length = x.length ∧ piB (y.getD i default) = true ∧ (findL (asgF f (x, []) (y.take i)).1 (y.getD i default).plate).2 = false ∧ chkL (asgF f (x, []) (y.take i)).1 = 0 := by
  have hc := h.ci f i
  have hl := h.len
  have hm : y.getD i default ∈ y := getD_memP hi
  refine ⟨hc.good, hc.len, h.pi _ hm, find_no fun k hk => hasB_no.2 fun q hq => ?_, hc.good.chk (by rw [hc.len]; exact hl)⟩
  rw [hc.len] at hk
  rcases hc.new k hk q hq with h1 | h1
  · exact hasB_no.1 (h.no _ hm k hk) q h1
  obtain ⟨j, hj, rfl⟩ := List.mem_take_iff_getElem.1 h1
  rw [getD_el hi]
  exact List.pairwise_iff_getElem.1 h.dis j i (by omega) hi (by omega)
theorem GoodC.sml {x : List Container} (h : GoodC x) (hl : x.length ≤ 24) : Sml x := ⟨by omega, fun c hc => by have := (val_inv (h.val c hc)).2.1; omega⟩
theorem bg_src {n : Nat} {x : List Container} {l : List Int} {k m : Nat} (h : InvB n x) (hl : x.length ≤ 24) (hm : m ≤ 40) : BG x (bagsV l k m).2 := by
  obtain ⟨hg, hlen⟩ := bagsV_good l k m
  refine ⟨h.good, hl, fun b hb => h.no_bag (by rw [hg.air hb]; decide), hg.dis (by omega), hg.ok⟩
/-- The containers while one is looked for by its number. -/
def bS (s : List Container) (j : Nat) (d : Container) (m : Nat) : List Container := if j < m then s.set j d else s
theorem hl20 (l : List Int) : (l.take 2000).length ≤ 2000 := by simp; omega
end Go.Proofs.Ytmdohphcolffmaa
namespace Go.Proofs.Ytmdohphcolffmaa
open Go.RowKit
set_option linter.unusedSimpArgs false
set_option linter.unusedVariables false
set_option maxRecDepth 100000
theorem run_eql41 (p q : Piece) (w : World) : (binOp .eql 41 (.agg #[.int .i64 p.plate.lead, .int .i64 p.plate.airline, .int .i64 p.plate.serial, .int .i64 p.weight, .int .i64 p.category]) (.agg #[.int .i64 q.plate.lead, .int .i64 q.plate.airline, .int .i64 q.plate.serial, .int .i64 q.weight, .int .i64 q.category])).run Try.prog w = .ok (.bool (piEq p q)) w := by
  obtain ⟨⟨x, y, z⟩, b, c⟩ := p
  obtain ⟨⟨x', y', z'⟩, b', c'⟩ := q
  unfold binOp
  simp only [Op.equal]
  rw [Sem.run_bind, show Op.maxDepth = 9997 + 1 + 1 + 1 from rfl, run_equalIn_struct w _ 41 _ _ fo41 st41]
  unfold Program.fieldsOf; rw [Try.underlying41]
  simp only [Op.eqFields]
  go_simp
  unfold piEq
  by_cases h1 : x = x' <;> by_cases h4 : y = y' <;> by_cases h5 : z = z' <;> by_cases h2 : b = b' <;> by_cases h3 : c = c' <;> simp [h1, h2, h3, h4, h5]
theorem run_tye41 (p q : Operand) (x y : Array Value) (w : World) : (eqGuard .eql 41 p q (.agg x) (.agg y)).run Try.prog w = .ok () w := by
  unfold eqGuard
  simp [ty41, run_program]
section
variable {S0 : Nat → Prop} {own0 : List Nat} {v0 : List Value} {w0 : World} {o : Oper} {ev : Operand → AV} {T : Sl} {yt : TypeId} {y z : Operand}
theorem op_eql41 {p q : Piece} (ho : o.op = .binOp .eql 41 y z yt) (hy : ev y = .agg p.av) (hz : ev z = .agg q.av) : OpP ⟨Try.prog, S0, own0, v0, w0⟩ o ev T (.v (.bool (piEq p q))) :=
  op_bin_agg (xs := [.int .i64 p.plate.lead, .int .i64 p.plate.airline, .int .i64 p.plate.serial, .int .i64 p.weight, .int .i64 p.category]) (ys := [.int .i64 q.plate.lead, .int .i64 q.plate.airline, .int .i64 q.plate.serial, .int .i64 q.weight, .int .i64 q.category]) ho hy hz (fun w => run_tye41 _ _ _ _ w) (fun w => run_eql41 p q w) rfl
end
/-- The last place with the number n among the first i. -/
def lastN (s : List Container) (n : Int) : Nat → Int
  | 0 => -1
  | i + 1 => if (s.getD i default).number = n then (i : Nat) else lastN s n i
def admU (s : List Container) (f : Flight) (p : Piece) (i : Nat) : Bool := (List.range i).any fun k => flEq (s.getD k default).flight f && admB (s.getD k default) p
abbrev balP (l : List Int) (k : Nat) : Piece := ⟨platesP 300, (pieceV l k 1).weight, (pieceV l k 1).category⟩
end Go.Proofs.Ytmdohphcolffmaa
namespace Go.Proofs.Ytmdohphcolffmaa
open Go.RowKit
set_option linter.unusedSimpArgs false
set_option linter.unusedVariables false
set_option maxRecDepth 100000
def totC (a x : List Container) (r : Nat) : Nat → Int
  | 0 => r
  | i + 1 => totC a x r i + (((a.getD i default).pieces.length : Int) - ((x.getD i default).pieces.length : Int))
theorem totC_bd {a x : List Container} {r : Nat} (ha : ∀ c ∈ a, c.pieces.length ≤ 60) (hx : ∀ c ∈ x, c.pieces.length ≤ 60) : ∀ i, i ≤ a.length → i ≤ x.length → (r : Int) - 60 * i ≤ totC a x r i ∧ totC a x r i ≤ r + 60 * i
  | 0, _, _ => by unfold totC; omega
  | i + 1, h1, h2 => by
    have ih := totC_bd (r := r) ha hx i (by omega) (by omega)
    have q1 := ha _ (getD_memC (l := a) (i := i) (by omega))
    have q2 := hx _ (getD_memC (l := x) (i := i) (by omega))
    unfold totC
    omega
theorem sum_take {a : List Container} {i : Nat} (h : i < a.length) : (((a.take (i + 1)).map fun c => c.pieces.length).sum) = (((a.take i).map fun c => c.pieces.length).sum) + (a.getD i default).pieces.length := by
  rw [List.take_add_one, List.map_append, List.sum_append, List.getElem?_eq_getElem h, getD_c h]
  simp
theorem totC_eq {a x : List Container} {r : Nat} : ∀ i, i ≤ a.length → i ≤ x.length → totC a x r i = r + (((a.take i).map fun c => c.pieces.length).sum : Nat) - (((x.take i).map fun c => c.pieces.length).sum : Nat)
  | 0, _, _ => by simp [totC]
  | i + 1, h1, h2 => by
    unfold totC
    rw [totC_eq i (by omega) (by omega), sum_take (by omega), sum_take (by omega)]
    omega
theorem CI.tot {x : List Container} {f : Flight} {B : List Piece} {s : List Container × List Piece} (h : CI x f B s) : totC s.1 x s.2.length x.length = (B.length : Nat) := by
  rw [totC_eq _ (by rw [h.len]; omega) (Nat.le_refl _), List.take_of_length_le (by rw [h.len]; omega), List.take_of_length_le (Nat.le_refl _)]
  have := h.cnt
  omega
theorem flEq_self (f : Flight) : flEq f f = true := by unfold flEq; simp
theorem hasB_yes {l : List Piece} {q : Piece} (h : q ∈ l) : hasB l q.plate = true := by
  cases hb : hasB l q.plate with
  | true => rfl
  | false => exact absurd rfl (hasB_no.1 hb q h)
theorem piEq_iff {p q : Piece} : piEq p q = true ↔ p = q := by
  unfold piEq
  obtain ⟨a, b, c⟩ := p
  obtain ⟨a', b', c'⟩ := q
  simp
theorem CI.bad {x : List Container} {f : Flight} {B : List Piece} {s : List Container × List Piece} (h : CI x f B s) {i : Nat} (hi : i < x.length) :
    (((((!flEq (s.1.getD i default).flight f) && (!sameC (s.1.getD i default) (x.getD i default))) || (overC (s.1.getD i default) && (!overC (x.getD i default)))) || (!decide ((s.1.getD i default).number = (x.getD i default).number))) || (!flEq (s.1.getD i default).flight (x.getD i default).flight)) = false := by
  obtain ⟨h1, h2, _⟩ := h.head i hi
  rw [h2, h1, flEq_self]
  have e1 : ((!flEq (x.getD i default).flight f) && (!sameC (s.1.getD i default) (x.getD i default))) = false := by
    cases hf : flEq (x.getD i default).flight f with
    | true => rfl
    | false => rw [h.same i hi hf, sameC_self]; rfl
  have e2 : (overC (s.1.getD i default) && (!overC (x.getD i default))) = false := by
    cases ho : overC (x.getD i default) with
    | true => simp
    | false => rw [h.over i hi ho]; rfl
  rw [e1, e2]
  simp
theorem CI.holds {x : List Container} {f : Flight} {B : List Piece} {s : List Container × List Piece} (h : CI x f B s) {i m : Nat} (hi : i < x.length) (hm : m < (x.getD i default).pieces.length) :
    hasB (s.1.getD i default).pieces ((x.getD i default).pieces.getD m default).plate = true := hasB_yes (h.sub i hi _ (getD_memP hm))
theorem CI.rest {x : List Container} {f : Flight} {B : List Piece} {s : List Container × List Piece} (h : CI x f B s) {i m : Nat} (hi : i < x.length) (hm : m < s.2.length) :
    ((flEq (s.1.getD i default).flight f && admB (s.1.getD i default) (s.2.getD m default)) || hasB (s.1.getD i default).pieces (s.2.getD m default).plate) = false := by
  have hq := getD_memP hm
  rw [h.excl _ hq i hi, Bool.or_false, (h.head i hi).2.1]
  cases hf : flEq (x.getD i default).flight f with
  | false => rfl
  | true => rw [(h.left _ hq).2 i hi hf]; rfl
def outS (s : List Piece) (p : Piece) (m : Nat) : Bool := (s.take m).any (piEq p)
theorem outS_s {s : List Piece} {p : Piece} {m : Nat} (h : m < s.length) : outS s p (m + 1) = (outS s p m || piEq p (s.getD m default)) := by
  unfold outS
  rw [List.take_add_one, List.any_append, List.getElem?_eq_getElem h, getD_el h]
  simp
theorem CI.inout {x : List Container} {f : Flight} {B : List Piece} {s : List Container × List Piece} (h : CI x f B s) {p : Piece} (hp : p ∈ B) : (findL s.1 p.plate).2 = !outS s.2 p s.2.length := by
  unfold outS
  rw [List.take_of_length_le (Nat.le_refl _), find_2]
  rcases h.inl p hp with h1 | ⟨i, hi, h1⟩
  · have e1 : s.2.any (piEq p) = true := List.any_eq_true.2 ⟨p, h1, piEq_iff.2 rfl⟩
    rw [e1]
    show _ = false
    rw [List.any_eq_false]
    intro c hc
    obtain ⟨k, hk, rfl⟩ := List.getElem_of_mem hc
    have := h.excl p h1 k (by rw [← h.len]; exact hk)
    rw [getD_c hk] at this
    rw [this]; decide
  have hi' : i < s.1.length := by rw [h.len]; exact hi
  have e1 : s.2.any (piEq p) = false := by
    rw [List.any_eq_false]
    intro q hq hpq
    have := piEq_iff.1 hpq
    subst this
    exact absurd rfl (hasB_no.1 (h.excl p hq i hi) p h1)
  rw [e1]
  show _ = true
  rw [List.any_eq_true]
  refine ⟨s.1.getD i default, getD_memC hi', hasB_yes h1⟩
end Go.Proofs.Ytmdohphcolffmaa
namespace Go.Proofs.Ytmdohphcolffmaa
open Go.RowKit
set_option linter.unusedSimpArgs false
set_option linter.unusedVariables false
set_option maxRecDepth 100000
set_option maxHeartbeats 8000000 in
theorem C4 {l : List Int} : Fn Try.prog 4 [] [.ro (l.map iv)] [.v (.bool true)] [] := by
  obtain ⟨k1, x, hC8, hInv, hxl⟩ := conts21 (l.take 2000) 0 6 9 (hl20 l) (by decide) (by decide)
  have hBG : BG x (bagsV (l.take 2000) k1 25).2 := bg_src hInv (by omega) (by decide)
  have hyl := (bagsV_good (l.take 2000) k1 25).2
  have hC9 := C9 (l := l.take 2000) (k0 := k1) (m := 25) (hl20 l) (by decide)
  generalize bagsV (l.take 2000) k1 25 = r at *
  obtain ⟨k2, y⟩ := r
  dsimp only at *
  have hg3 := gmod_bd (x := rawV (l.take 2000) k2) (n := 3) (by decide)
  have hC10 := C10 _ hg3
  have hsm := hBG.good.sml (by omega)
  generalize flightN (gmod (rawV (l.take 2000) k2) 3) = f at *
  have hC12 := C12 (l := x) (f := f) (bags := y) hsm (by omega)
  rw [hBG.asg] at hC12
  have hci := (hBG.perm (ordV_perm y)).ciAll f
  have hBl := ordV_len y
  have hsub : ∀ p ∈ y, p ∈ ordV y := fun p hp => (ordV_perm y).symm.subset hp
  have hrl := (asgF_len (f := f) (ordV y) (x, [])).2
  rw [hBl] at hrl
  generalize asgF f (x, []) (ordV y) = E at *
  obtain ⟨a, rest⟩ := E
  dsimp only at *
  rw [List.length_nil] at hrl
  have hal : a.length = x.length := hci.len
  have hga : GoodC a := hci.good
  have hsa := hga.sml (by omega)
  have hcka := hga.chk (by omega)
  have h60a : ∀ c ∈ a, c.pieces.length ≤ 60 := fun c hc => (val_inv (hga.val c hc)).2.1
  have h60x : ∀ c ∈ x, c.pieces.length ≤ 60 := fun c hc => (val_inv (hBG.good.val c hc)).2.1
  have h20 : Fn Try.prog 20 [] [.ro (a.map Container.av)] [.v (.int .i64 0)] [] := by
    have h := C20 (xs := a) (by omega)
    rwa [hcka] at h
  refine Spec.body Try.func4 rfl Try.ntmps4 (by simp) rfl ?_; intro S0 own0 v0 w0
  (refine AW.seq_k ?_; intro K hK)
  refine AW.region ?_
  refine awP (op_assign rfl rfl) ?_
  refine AWL.nil ?_
  (refine hK _ ?_; clear hK K; (try simp only [nA, Nat.reduceBEq, Nat.reduceEqDiff, ↓reduceIte, Nat.reduceAdd, Nat.reduceSub]))
  (refine AW.seq_k ?_; intro K hK)
  refine AW.region ?_
  refine awP (op_move rfl rfl) ?_
  refine awJ (op_callB rfl en7 (C7) (RL.cons (by exact View.same rfl) (RL.nil))) ?_; (simp only [nA, Nat.reduceBEq, Nat.reduceEqDiff, ↓reduceIte])
  refine awP (op_assign rfl rfl) ?_
  refine AWL.nil ?_
  (refine hK _ ?_; clear hK K; (simp only [nA]))
  (refine AW.seq_k ?_; intro K hK)
  refine AW.region ?_
  refine awP (op_move rfl rfl) ?_
  refine awJ (op_call1 rfl en8 hC8 (by exact rfl) (RL.cons .ptr (RL.cons (.base (by exact View.same rfl)) (RL.cons (.base (by exact View.same rfl)) (RL.nil)))) (by exact ⟨_, _, _, rfl, rfl, rfl⟩) (by exact rfl) (by exact rfl) (by exact rfl)) ?_; (simp only [nA, Nat.reduceBEq, Nat.reduceEqDiff, ↓reduceIte]); refine AWL.gh (Gh.freezeN 26 (bl rfl) rfl rfl (by simpa using flat2_cons x []) (es' := x.map Container.av) (by rw [List.take_of_length_le (by simp)]; simpa using fz_cons x [])) ?_; (try simp only [nA, Nat.reduceBEq, Nat.reduceEqDiff, ↓reduceIte, Nat.reduceAdd, Nat.reduceSub])
  refine awP (op_move rfl rfl) ?_
  refine awJ (op_call1 rfl en9 hC9 (by exact rfl) (RL.cons .ptr (RL.cons (.base (by exact View.same rfl)) (RL.nil))) (by exact ⟨_, _, _, rfl, rfl, rfl⟩) (by exact rfl) (by exact rfl) (by exact rfl)) ?_; (simp only [nA, ↓reduceIte])
  refine awP (op_move rfl rfl) ?_
  refine awJ (op_call1 rfl en11 (C11 (l := (l.take 2000)) (k := k2) (n := 3) (hl20 l) (by decide)) (by exact rfl) (RL.cons .ptr (RL.cons (.base (by exact View.same rfl)) (RL.nil))) (by exact ⟨_, _, _, rfl, rfl, rfl⟩) (by exact rfl) (by exact rfl) (by exact rfl)) ?_; (simp only [nA, ↓reduceIte])
  refine awJ (op_call (b := false) rfl en10 hC10 (RL.cons (by exact View.same rfl) (RL.nil)) rfl (fun h => by cases h) rfl rfl) ?_; (try simp only [nA, Nat.reduceBEq, Nat.reduceEqDiff, ↓reduceIte, Nat.reduceAdd, Nat.reduceSub])
  refine awJ (op_alloc rfl ze30 rfl) ?_; (simp only [nA, Nat.reduceBEq, Nat.reduceEqDiff, ↓reduceIte])
  refine awP (op_assign rfl rfl) ?_
  refine awP (op_assign rfl rfl) ?_
  refine awJ (op_store rfl rfl rfl rfl rfl rfl sz30 rfl (bl rfl) rfl) ?_; (simp only [nA, Nat.reduceBEq, Nat.reduceEqDiff, ↓reduceIte])
  refine AWL.nil ?_
  (refine hK _ ?_; clear hK K; (skip))
  (refine AW.seq_k ?_; intro K hK)
  refine AW.region ?_
  refine awP (op_move rfl rfl) ?_
  (refine awR (op_load_ptr rfl rfl rfl rfl ag30 sz30 (bl rfl) rfl) ?_)
  refine awP (op_move rfl rfl) ?_
  refine awJ (op_call (b := false) rfl en12 hC12 (RL.cons (by exact View.same rfl) (RL.cons (by exact View.same rfl) (RL.cons (by exact View.same rfl) (RL.nil)))) rfl (fun h => by cases h) rfl rfl) ?_; (simp only [nA, ↓reduceIte])
  refine awP (op_move rfl rfl) ?_
  refine awP (op_extract rfl rfl rfl) ?_
  refine awP (op_extract rfl rfl rfl) ?_
  refine awP (op_extract rfl rfl rfl) ?_
  refine awP (op_assign rfl rfl) ?_
  refine awP (op_assign rfl rfl) ?_
  refine awP (op_assign rfl rfl) ?_
  refine AWL.nil ?_
  (refine hK _ ?_; clear hK K; (simp only [nA, ↓reduceIte]))
  (refine AW.seq_k ?_; intro K hK)
  (refine AW.seq_k ?_; intro K hK)
  refine AW.region (AWL.quiet ?_)
  refine aqP (op_move rfl rfl) ?_
  (refine aqP (op_neq rfl rfl rfl) ?_)
  refine aqP (op_move rfl rfl) ?_
  refine' aqOr' [_, _, _, _, _] [43,44,45,46,47] rfl rfl rfl rfl rfl rfl rfl rfl rfl rfl rfl rfl (fun hb => ?_) ?_; rotate_left
  ·
   (try simp only [hcS] at hb)
   refine aqP (op_move rfl rfl) ?_
   refine aqP (op_len_ro (n := x.length) rfl rfl Try.underlying25 (.inr (.inl ⟨_, rfl, by simp [hal]⟩))) ?_
   refine aqP (op_move rfl rfl) ?_
   refine aqP (op_len_ro (n := x.length) rfl rfl Try.underlying25 (.inr (.inl ⟨_, rfl, by simp [hal]⟩))) ?_
   (refine aqP (op_neq rfl rfl rfl) ?_)
   (refine aqSeg rfl rfl rfl ?_; repeat (first | exact fun _ _ => rfl | refine upd_out rfl ?_))
  simp only [nA]
  refine aqP (op_move rfl rfl) ?_
  refine' aqOr' [_, _, _] [50,51,52] rfl rfl rfl rfl rfl rfl rfl rfl rfl rfl rfl rfl (fun hb => ?_) ?_; rotate_left
  ·
   (try simp only [hcS] at hb)
   refine aqP (op_move rfl rfl) ?_
   refine aqQ (op_callQ (b := true) rfl en20 h20 (RL.cons (by exact View.same rfl) (RL.nil)) rfl) ?_; (simp only [nA, Nat.reduceEqDiff, ↓reduceIte])
   (refine aqP (op_neq rfl rfl rfl) ?_)
   (refine aqSeg rfl rfl rfl ?_; repeat (first | exact fun _ _ => rfl | refine upd_out rfl ?_))
  simp only [nA]
  refine AQ.nil ?_
  (refine hK _ ?_; clear hK K; (skip))
  refine AW.cond rfl rfl rfl (fun hc => ?_) (fun hc => ?_)
  · (simp at hc; done)
  have hc1 := hc
  refine AW.skip ?_
  (refine hK _ ?_; clear hK K; (skip))
  (refine AW.seq_k ?_; intro K hK)
  refine AW.region ?_
  refine awP (op_move rfl rfl) ?_
  refine awP (op_len_ro (n := rest.length) rfl rfl Try.underlying27 (.inr (.inl ⟨_, rfl, by simp⟩))) ?_
  refine awP (op_assign rfl rfl) ?_
  refine AWL.nil ?_
  (refine hK _ ?_; clear hK K; (simp only [nA, Nat.reduceEqDiff, ↓reduceIte]))
  (refine AW.seq_k ?_; intro K hK)
  (refine AW.seq_k ?_; intro K hK)
  refine AW.region ?_
  refine awP (op_move rfl rfl) ?_
  refine awP (op_len_ro (n := x.length) rfl rfl Try.underlying25 (.inr (.inl ⟨_, rfl, by simp [hal]⟩))) ?_
  refine awP (op_move rfl rfl) ?_
  refine AWL.nil ?_
  (refine hK _ ?_; clear hK K; (simp only [nA, Nat.reduceEqDiff, ↓reduceIte]))
  refine AW.block ?_
  refine AW.loopI (fun (q : Nat × Nat) => [(4, .ro (x.map Container.av)), (5, .ro (y.map Piece.av)), (6, .ptr 2 3 0 0), (7, .ro (a.map Container.av)), (8, .ro (rest.map Piece.av)), (10, .v (.int .i64 (totC a x rest.length q.1))), (56, .ro (a.map Container.av)), (57, .v (.int .i64 (x.length : Nat))), (58, .v (.int .i64 (q.1 : Nat)))]) (fun q => ⟨[(1, .own 65 [srcRow (l.take 2000) (rawN (l.take 2000) k2)]), (2, .any), (3, .own 30 [f.av])], q.2⟩) (fun q => q.1 ≤ x.length) (fun q => x.length - q.1) (0, _) (by simp) ⟨rfl, rfl, rfl, rfl, rfl, rfl, rfl, rfl, rfl, trivial⟩ rfl ?_; rintro ⟨i, ep⟩ ρ hI; dsimp only at hI ⊢; simp only [updL]
  (refine AW.seq_k ?_; intro K hK)
  refine AW.region ?_
  refine awP (op_lss rfl rfl rfl) ?_
  refine AWL.nil ?_
  (refine hK _ ?_; clear hK K; (try simp only [nA, Nat.reduceBEq, Nat.reduceEqDiff, ↓reduceIte, Nat.reduceAdd, Nat.reduceSub]))
  (refine AW.seq_k ?_; intro K hK)
  refine AW.cond rfl rfl rfl (fun hc => ?_) (fun hc => ?_)
  ·
   have hc2 := hc; have hlt : i < x.length := (by simpa using hc2); have hla : i < a.length := (by omega); have hbad := hci.bad hlt; have hA := h60a _ (getD_memC hla); have hX := h60x _ (getD_memC hlt); have htb := totC_bd (r := rest.length) h60a h60x i (by omega) (by omega)
   refine AW.skip ?_
   (refine hK _ ?_; clear hK K; (skip))
   (refine AW.seq_k ?_; intro K hK)
   refine AW.block ?_
   (refine AW.seq_k ?_; intro K hK)
   refine AW.region ?_
   refine awP (op_move rfl rfl) ?_
   refine awP (op_assign rfl rfl) ?_
   refine AWL.nil ?_
   (refine hK _ ?_; clear hK K; (simp only [nA, ↓reduceIte]))
   (refine AW.seq_k ?_; intro K hK)
   (refine AW.seq_k ?_; intro K hK)
   refine AW.quiet mix (by kernel_rfl) ?_
   refine aqP (op_move rfl rfl) ?_
   refine aqP (op_move rfl rfl) ?_
   refine aqP (op_ia_ro i rfl (.inl rfl) rfl Try.underlying25 rfl (get_mapD hla) (by exact sz45) (bl rfl)) ?_
   (refine aqP (op_fa_rop rfl rfl fl45_1 (by exact sz30) (by decide) (bl rfl) rfl) ?_)
   (refine aqR (op_load_rop rfl rfl ag30 sz30 (bl rfl) (by decide) rfl) ?_)
   (refine aqR (op_load_ptr rfl rfl rfl rfl ag30 sz30 (bl rfl) rfl) ?_)
   refine aqP (op_neq30 (p := (a.getD i default).flight) (q := f) rfl rfl rfl) ?_
   refine aqP (op_move rfl rfl) ?_
   refine' aqAnd' [_, _, _, _, _, _, _, _, _, _] [69,70,71,72,73,74,75,76,77,78] rfl rfl rfl rfl rfl rfl rfl rfl rfl rfl rfl rfl (fun hb => ?_) ?_; rotate_left
   ·
    (try simp only [hcS] at hb)
    refine aqP (op_move rfl rfl) ?_
    refine aqP (op_move rfl rfl) ?_
    refine aqP (op_ia_ro i rfl (.inl rfl) rfl Try.underlying25 rfl (get_mapD hla) (by exact sz45) (bl rfl)) ?_
    (refine aqR (op_load_rop rfl rfl ag45 sz45 (bl rfl) (by decide) rfl) ?_)
    refine aqP (op_move rfl rfl) ?_
    refine aqP (op_move rfl rfl) ?_
    refine aqP (op_ia_ro i rfl (.inl rfl) rfl Try.underlying25 rfl (get_mapD hlt) (by exact sz45) (bl rfl)) ?_
    (refine aqR (op_load_rop rfl rfl ag45 sz45 (bl rfl) (by decide) rfl) ?_)
    refine aqQ (op_callQ (b := true) rfl en21 (C21 (c := (a.getD i default)) (d := (x.getD i default)) (by omega)) (RL.cons (by exact View.same rfl) (RL.cons (by exact View.same rfl) (RL.nil))) rfl) ?_; (simp only [nA, ↓reduceIte])
    refine aqP (op_not rfl rfl rfl) ?_
    (refine aqSeg rfl rfl rfl ?_; repeat (first | exact fun _ _ => rfl | refine upd_out rfl ?_))
   simp only [nA, ↓reduceIte]
   refine aqP (op_move rfl rfl) ?_
   refine' aqOrN' [_, _, _, _, _, _, _, _, _, _, _, _, _] [81,82,83,84,85,86,87,88,89,90,91,92,93] rfl rfl rfl rfl rfl rfl rfl rfl rfl rfl rfl rfl (fun hb => ?_) ?_; rotate_left
   ·
    (try simp only [hcS] at hb)
    refine aqP (op_move rfl rfl) ?_
    refine aqP (op_move rfl rfl) ?_
    refine aqP (op_ia_ro i rfl (.inl rfl) rfl Try.underlying25 rfl (get_mapD hla) (by exact sz45) (bl rfl)) ?_
    (refine aqR (op_load_rop rfl rfl ag45 sz45 (bl rfl) (by decide) rfl) ?_)
    refine aqQ (op_callQ (b := true) rfl en22 (C22 (c := (a.getD i default))) (RL.cons (by exact View.same rfl) (RL.nil)) rfl) ?_; (simp only [nA, Nat.reduceEqDiff, ↓reduceIte])
    refine aqP (op_move rfl rfl) ?_
    refine' aqAnd' [_, _, _, _, _, _] [87,88,89,90,91,92] rfl rfl rfl rfl rfl rfl rfl rfl rfl rfl rfl rfl (fun hb => ?_) ?_; rotate_left
    ·
     (try simp only [hcS] at hb)
     refine aqP (op_move rfl rfl) ?_
     refine aqP (op_move rfl rfl) ?_
     refine aqP (op_ia_ro i rfl (.inl rfl) rfl Try.underlying25 rfl (get_mapD hlt) (by exact sz45) (bl rfl)) ?_
     (refine aqR (op_load_rop rfl rfl ag45 sz45 (bl rfl) (by decide) rfl) ?_)
     refine aqQ (op_callQ (b := true) rfl en22 (C22 (c := (x.getD i default))) (RL.cons (by exact View.same rfl) (RL.nil)) rfl) ?_; (simp only [nA, Nat.reduceEqDiff, ↓reduceIte])
     refine aqP (op_not rfl rfl rfl) ?_
     (refine aqSeg rfl rfl rfl ?_; repeat (first | exact fun _ _ => rfl | refine upd_out rfl ?_))
    simp only [nA]
    (refine aqSeg rfl rfl rfl ?_; repeat (first | exact fun _ _ => rfl | refine upd_out rfl ?_ | refine era_out rfl ?_))
   simp only [nA]
   refine aqP (op_move rfl rfl) ?_
   refine' aqOr' [_, _, _, _, _, _, _, _, _, _, _] [96,97,98,99,100,101,102,103,104,105,106] rfl rfl rfl rfl rfl rfl rfl rfl rfl rfl rfl rfl (fun hb => ?_) ?_; rotate_left
   ·
    (try simp only [hcS] at hb)
    refine aqP (op_move rfl rfl) ?_
    refine aqP (op_move rfl rfl) ?_
    refine aqP (op_ia_ro i rfl (.inl rfl) rfl Try.underlying25 rfl (get_mapD hla) (by exact sz45) (bl rfl)) ?_
    (refine aqP (op_fa_rop rfl rfl fl45_0 (by exact sz3) (by decide) (bl rfl) rfl) ?_)
    (refine aqR (op_load_rop1 rfl rfl ag3) ?_)
    refine aqP (op_move rfl rfl) ?_
    refine aqP (op_move rfl rfl) ?_
    refine aqP (op_ia_ro i rfl (.inl rfl) rfl Try.underlying25 rfl (get_mapD hlt) (by exact sz45) (bl rfl)) ?_
    (refine aqP (op_fa_rop rfl rfl fl45_0 (by exact sz3) (by decide) (bl rfl) rfl) ?_)
    (refine aqR (op_load_rop1 rfl rfl ag3) ?_)
    (refine aqP (op_neq rfl rfl rfl) ?_)
    (refine aqSeg rfl rfl rfl ?_; repeat (first | exact fun _ _ => rfl | refine upd_out rfl ?_))
   simp only [nA]
   refine aqP (op_move rfl rfl) ?_
   refine' aqOr' [_, _, _, _, _, _, _, _, _, _, _] [109,110,111,112,113,114,115,116,117,118,119] rfl rfl rfl rfl rfl rfl rfl rfl rfl rfl rfl rfl (fun hb => ?_) ?_; rotate_left
   ·
    (try simp only [hcS] at hb)
    refine aqP (op_move rfl rfl) ?_
    refine aqP (op_move rfl rfl) ?_
    refine aqP (op_ia_ro i rfl (.inl rfl) rfl Try.underlying25 rfl (get_mapD hla) (by exact sz45) (bl rfl)) ?_
    (refine aqP (op_fa_rop rfl rfl fl45_1 (by exact sz30) (by decide) (bl rfl) rfl) ?_)
    (refine aqR (op_load_rop rfl rfl ag30 sz30 (bl rfl) (by decide) rfl) ?_)
    refine aqP (op_move rfl rfl) ?_
    refine aqP (op_move rfl rfl) ?_
    refine aqP (op_ia_ro i rfl (.inl rfl) rfl Try.underlying25 rfl (get_mapD hlt) (by exact sz45) (bl rfl)) ?_
    (refine aqP (op_fa_rop rfl rfl fl45_1 (by exact sz30) (by decide) (bl rfl) rfl) ?_)
    (refine aqR (op_load_rop rfl rfl ag30 sz30 (bl rfl) (by decide) rfl) ?_)
    refine aqP (op_neq30 (p := (a.getD i default).flight) (q := (x.getD i default).flight) rfl rfl rfl) ?_
    (refine aqSeg rfl rfl rfl ?_; repeat (first | exact fun _ _ => rfl | refine upd_out rfl ?_))
   simp only [nA]
   refine AQ.nil ?_
   (refine hK _ ?_; clear hK K; (skip))
   refine AW.cond rfl rfl rfl (fun hc => ?_) (fun hc => ?_)
   · (exact absurd (hc.symm.trans hbad) (by decide))
   have hc3 := hc
   refine AW.skip ?_
   (refine hK _ ?_; clear hK K; (skip))
   (refine AW.seq_k ?_; intro K hK)
   refine AW.quiet mix (by kernel_rfl) ?_
   refine aqP (op_move rfl rfl) ?_
   refine aqP (op_move rfl rfl) ?_
   refine aqP (op_move rfl rfl) ?_
   refine aqP (op_ia_ro i rfl (.inl rfl) rfl Try.underlying25 rfl (get_mapD hla) (by exact sz45) (bl rfl)) ?_
   (refine aqP (op_fa_rop rfl rfl fl45_7 (by exact sz27) (by decide) (bl rfl) rfl) ?_)
   (refine aqR (op_load_rop1 rfl rfl ag27) ?_)
   refine aqP (op_len_ro (n := (a.getD i default).pieces.length) rfl rfl Try.underlying27 (.inr (.inl ⟨_, rfl, by simp⟩))) ?_
   refine aqP (op_move rfl rfl) ?_
   refine aqP (op_move rfl rfl) ?_
   refine aqP (op_ia_ro i rfl (.inl rfl) rfl Try.underlying25 rfl (get_mapD hlt) (by exact sz45) (bl rfl)) ?_
   (refine aqP (op_fa_rop rfl rfl fl45_7 (by exact sz27) (by decide) (bl rfl) rfl) ?_)
   (refine aqR (op_load_rop1 rfl rfl ag27) ?_)
   refine aqP (op_len_ro (n := (x.getD i default).pieces.length) rfl rfl Try.underlying27 (.inr (.inl ⟨_, rfl, by simp⟩))) ?_
   (refine aqP (op_subi rfl rfl rfl (by omega)) ?_)
   (refine aqP (op_addi rfl rfl rfl (by omega)) ?_)
   refine aqP (op_assign rfl rfl) ?_
   refine AQ.nil ?_
   (refine hK _ ?_; clear hK K; (simp only [nA, Nat.reduceEqDiff, ↓reduceIte]))
   (refine AW.seq_k ?_; intro K hK)
   (refine AW.seq_k ?_; intro K hK)
   refine AW.region ?_
   refine awP (op_move rfl rfl) ?_
   refine awP (op_move rfl rfl) ?_
   refine awP (op_ia_ro i rfl (.inl rfl) rfl Try.underlying25 rfl (get_mapD hlt) (by exact sz45) (bl rfl)) ?_
   (refine awP (op_fa_rop rfl rfl fl45_7 (by exact sz27) (by decide) (bl rfl) rfl) ?_)
   (refine awR (op_load_rop1 rfl rfl ag27) ?_)
   refine awP (op_len_ro (n := (x.getD i default).pieces.length) rfl rfl Try.underlying27 (.inr (.inl ⟨_, rfl, by simp⟩))) ?_
   refine awP (op_move rfl rfl) ?_
   refine AWL.nil ?_
   (refine hK _ ?_; clear hK K; (simp only [nA, Nat.reduceEqDiff, ↓reduceIte]))
   refine AW.block ?_
   refine AW.loopI (fun (q : Nat × Nat) => [(4, .ro (x.map Container.av)), (5, .ro (y.map Piece.av)), (6, .ptr 2 3 0 0), (7, .ro (a.map Container.av)), (8, .ro (rest.map Piece.av)), (10, .v (.int .i64 (totC a x rest.length (i + 1)))), (11, .v (.int .i64 (i : Nat))), (56, .ro (a.map Container.av)), (57, .v (.int .i64 (x.length : Nat))), (58, .v (.int .i64 (i : Nat))), (140, .ro ((x.getD i default).pieces.map Piece.av)), (141, .v (.int .i64 ((x.getD i default).pieces.length : Nat))), (142, .v (.int .i64 (q.1 : Nat)))]) (fun q => ⟨[(1, .own 65 [srcRow (l.take 2000) (rawN (l.take 2000) k2)]), (2, .any), (3, .own 30 [f.av])], q.2⟩) (fun q => q.1 ≤ (x.getD i default).pieces.length) (fun q => (x.getD i default).pieces.length - q.1) (0, _) (by simp) ⟨rfl, rfl, rfl, rfl, rfl, rfl, rfl, rfl, rfl, rfl, rfl, rfl, rfl, trivial⟩ rfl ?_; rintro ⟨m, ep2⟩ ρ2 hJ; dsimp only at hJ ⊢; simp only [updL]
   (refine AW.seq_k ?_; intro K hK)
   refine AW.region ?_
   refine awP (op_lss rfl rfl rfl) ?_
   refine AWL.nil ?_
   (refine hK _ ?_; clear hK K; (try simp only [nA, Nat.reduceBEq, Nat.reduceEqDiff, ↓reduceIte, Nat.reduceAdd, Nat.reduceSub]))
   (refine AW.seq_k ?_; intro K hK)
   refine AW.cond rfl rfl rfl (fun hc => ?_) (fun hc => ?_)
   ·
    have hc4 := hc; have hm : m < (x.getD i default).pieces.length := (by simpa using hc4)
    refine AW.skip ?_
    (refine hK _ ?_; clear hK K; (skip))
    (refine AW.seq_k ?_; intro K hK)
    refine AW.block ?_
    (refine AW.seq_k ?_; intro K hK)
    refine AW.region ?_
    refine awP (op_ia_ro m rfl (.inl rfl) rfl Try.underlying27 rfl (get_mapD hm) (by exact sz41) (bl rfl)) ?_
    (refine awR (op_load_rop rfl rfl ag41 sz41 (bl rfl) (by decide) rfl) ?_)
    refine awJ (op_alloc rfl ze41 rfl) ?_; (simp only [nA, Nat.reduceBEq, Nat.reduceEqDiff, ↓reduceIte])
    refine awJ (op_store rfl rfl rfl rfl rfl rfl sz41 rfl (bl rfl) rfl) ?_; (simp only [nA, Nat.reduceBEq, Nat.reduceEqDiff, ↓reduceIte])
    refine AWL.nil ?_
    (refine hK _ ?_; clear hK K; (skip))
    (refine AW.seq_k ?_; intro K hK)
    refine AW.quiet mix (by kernel_rfl) ?_
    refine aqP (op_move rfl rfl) ?_
    refine aqP (op_move rfl rfl) ?_
    refine aqP (op_ia_ro i rfl (.inl rfl) rfl Try.underlying25 rfl (get_mapD hla) (by exact sz45) (bl rfl)) ?_
    (refine aqR (op_load_rop rfl rfl ag45 sz45 (bl rfl) (by decide) rfl) ?_)
    (refine aqP (op_fa_ptr rfl rfl rfl fl41_0 (by exact sz39) (by decide) rfl) ?_)
    (refine aqR (op_load_ptr rfl rfl rfl rfl ag39 sz39 (bl rfl) rfl) ?_)
    refine aqQ (op_callQ (b := true) rfl en23 (C23 (c := (a.getD i default)) (p := ((x.getD i default).pieces.getD m default).plate) (by omega)) (RL.cons (by exact View.same rfl) (RL.cons (by exact View.same rfl) (RL.nil))) rfl) ?_; (simp only [nA, ↓reduceIte])
    refine aqP (op_not rfl rfl rfl) ?_
    refine AQ.nil ?_
    (refine hK _ ?_; clear hK K; (try simp only [nA, Nat.reduceBEq, Nat.reduceEqDiff, ↓reduceIte, Nat.reduceAdd, Nat.reduceSub]))
    refine AW.cond rfl rfl rfl (fun hc => ?_) (fun hc => ?_)
    · (rw [hci.holds hlt hm] at hc; cases hc)
    have hc5 := hc
    refine AW.skip ?_
    (try simp only [thenE, inBlk, Nat.reduceEqDiff, ↓reduceIte])
    (refine hK _ ?_; clear hK K; (skip))
    refine AW.region ?_
    (refine awP (op_addi rfl rfl rfl (by omega)) ?_)
    refine awP (op_move rfl rfl) ?_
    refine AWL.gh (Gh.drop 3) ?_; (simp only [nA])
    refine AWL.nil ?_
    refine ⟨(m + 1, _), by dsimp only; omega, by dsimp only; omega, ⟨rfl, rfl, rfl, rfl, rfl, rfl, rfl, rfl, rfl, rfl, rfl, rfl, rfl, trivial⟩, (by rfl), (by rfl)⟩
   have hc4 := hc
   refine AW.exit ?_; (try simp only [thenE, inBlk, Nat.reduceEqDiff, ↓reduceIte])
   clear hK K
   (refine hK _ ?_; clear hK K; (skip))
   (refine AW.seq_k ?_; intro K hK)
   refine AW.region ?_
   refine awP (op_move rfl rfl) ?_
   refine awP (op_len_ro (n := rest.length) rfl rfl Try.underlying27 (.inr (.inl ⟨_, rfl, by simp⟩))) ?_
   refine awP (op_move rfl rfl) ?_
   refine AWL.nil ?_
   (refine hK _ ?_; clear hK K; (simp only [nA, ↓reduceIte]))
   refine AW.block ?_
   refine AW.loopI (fun (q : Nat × Nat) => [(4, .ro (x.map Container.av)), (5, .ro (y.map Piece.av)), (6, .ptr 2 3 0 0), (7, .ro (a.map Container.av)), (8, .ro (rest.map Piece.av)), (10, .v (.int .i64 (totC a x rest.length (i + 1)))), (11, .v (.int .i64 (i : Nat))), (56, .ro (a.map Container.av)), (57, .v (.int .i64 (x.length : Nat))), (58, .v (.int .i64 (i : Nat))), (155, .ro (rest.map Piece.av)), (156, .v (.int .i64 (rest.length : Nat))), (157, .v (.int .i64 (q.1 : Nat)))]) (fun q => ⟨[(1, .own 65 [srcRow (l.take 2000) (rawN (l.take 2000) k2)]), (2, .any), (3, .own 30 [f.av])], q.2⟩) (fun q => q.1 ≤ rest.length) (fun q => rest.length - q.1) (0, _) (by simp) ⟨rfl, rfl, rfl, rfl, rfl, rfl, rfl, rfl, rfl, rfl, rfl, rfl, rfl, trivial⟩ rfl ?_; clear hJ; rintro ⟨m, ep2⟩ ρ3 hJ; dsimp only at hJ ⊢; simp only [updL]
   (refine AW.seq_k ?_; intro K hK)
   refine AW.region ?_
   refine awP (op_lss rfl rfl rfl) ?_
   refine AWL.nil ?_
   (refine hK _ ?_; clear hK K; (try simp only [nA, Nat.reduceBEq, Nat.reduceEqDiff, ↓reduceIte, Nat.reduceAdd, Nat.reduceSub]))
   (refine AW.seq_k ?_; intro K hK)
   refine AW.cond rfl rfl rfl (fun hc => ?_) (fun hc => ?_)
   ·
    have hc6 := hc; have hm : m < rest.length := (by simpa using hc6)
    refine AW.skip ?_
    (refine hK _ ?_; clear hK K; (skip))
    (refine AW.seq_k ?_; intro K hK)
    refine AW.block ?_
    (refine AW.seq_k ?_; intro K hK)
    refine AW.region ?_
    refine awP (op_ia_ro m rfl (.inl rfl) rfl Try.underlying27 rfl (get_mapD hm) (by exact sz41) (bl rfl)) ?_
    (refine awR (op_load_rop rfl rfl ag41 sz41 (bl rfl) (by decide) rfl) ?_)
    refine awJ (op_alloc rfl ze41 rfl) ?_; (simp only [nA, Nat.reduceBEq, Nat.reduceEqDiff, ↓reduceIte])
    refine awJ (op_store rfl rfl rfl rfl rfl rfl sz41 rfl (bl rfl) rfl) ?_; (simp only [nA, Nat.reduceBEq, Nat.reduceEqDiff, ↓reduceIte])
    refine AWL.nil ?_
    (refine hK _ ?_; clear hK K; (skip))
    (refine AW.seq_k ?_; intro K hK)
    refine AW.quiet mix (by kernel_rfl) ?_
    refine aqP (op_move rfl rfl) ?_
    refine aqP (op_move rfl rfl) ?_
    refine aqP (op_ia_ro i rfl (.inl rfl) rfl Try.underlying25 rfl (get_mapD hla) (by exact sz45) (bl rfl)) ?_
    (refine aqP (op_fa_rop rfl rfl fl45_1 (by exact sz30) (by decide) (bl rfl) rfl) ?_)
    (refine aqR (op_load_rop rfl rfl ag30 sz30 (bl rfl) (by decide) rfl) ?_)
    (refine aqR (op_load_ptr rfl rfl rfl rfl ag30 sz30 (bl rfl) rfl) ?_)
    refine aqP (op_eq30 (p := (a.getD i default).flight) (q := f) rfl rfl rfl) ?_; (simp only [nA, ↓reduceIte])
    refine aqP (op_move rfl rfl) ?_
    refine' aqAnd' [_, _, _, _, _, _] [169,170,171,172,173,174] rfl rfl rfl rfl rfl rfl rfl rfl rfl rfl rfl rfl (fun hb => ?_) ?_; rotate_left
    ·
     (try simp only [hcS] at hb)
     refine aqP (op_move rfl rfl) ?_
     refine aqP (op_move rfl rfl) ?_
     refine aqP (op_ia_ro i rfl (.inl rfl) rfl Try.underlying25 rfl (get_mapD hla) (by exact sz45) (bl rfl)) ?_
     (refine aqR (op_load_rop rfl rfl ag45 sz45 (bl rfl) (by decide) rfl) ?_)
     (refine aqR (op_load_ptr rfl rfl rfl rfl ag41 sz41 (bl rfl) rfl) ?_)
     refine aqQ (op_callQ (b := true) rfl en24 (C24 (c := (a.getD i default)) (p := rest.getD m default)) (RL.cons (by exact View.same rfl) (RL.cons (by exact View.same rfl) (RL.nil))) rfl) ?_; (simp only [nA, ↓reduceIte])
     (refine aqSeg rfl rfl rfl ?_; repeat (first | exact fun _ _ => rfl | refine upd_out rfl ?_))
    simp only [nA]
    refine aqP (op_move rfl rfl) ?_
    refine' aqOr' [_, _, _, _, _, _, _] [177,178,179,180,181,182,183] rfl rfl rfl rfl rfl rfl rfl rfl rfl rfl rfl rfl (fun hb => ?_) ?_; rotate_left
    ·
     (try simp only [hcS] at hb)
     refine aqP (op_move rfl rfl) ?_
     refine aqP (op_move rfl rfl) ?_
     refine aqP (op_ia_ro i rfl (.inl rfl) rfl Try.underlying25 rfl (get_mapD hla) (by exact sz45) (bl rfl)) ?_
     (refine aqR (op_load_rop rfl rfl ag45 sz45 (bl rfl) (by decide) rfl) ?_)
     (refine aqP (op_fa_ptr rfl rfl rfl fl41_0 (by exact sz39) (by decide) rfl) ?_)
     (refine aqR (op_load_ptr rfl rfl rfl rfl ag39 sz39 (bl rfl) rfl) ?_)
     refine aqQ (op_callQ (b := true) rfl en23 (C23 (c := (a.getD i default)) (p := (rest.getD m default).plate) (by omega)) (RL.cons (by exact View.same rfl) (RL.cons (by exact View.same rfl) (RL.nil))) rfl) ?_; (simp only [nA, Nat.reduceEqDiff, ↓reduceIte])
     (refine aqSeg rfl rfl rfl ?_; repeat (first | exact fun _ _ => rfl | refine upd_out rfl ?_))
    simp only [nA]
    refine AQ.nil ?_
    (refine hK _ ?_; clear hK K; (skip))
    refine AW.cond rfl rfl rfl (fun hc => ?_) (fun hc => ?_)
    · (exact absurd (hc.symm.trans (hci.rest hlt hm)) (by decide))
    have hc7 := hc
    refine AW.skip ?_
    (try simp only [thenE, inBlk, Nat.reduceEqDiff, ↓reduceIte])
    (refine hK _ ?_; clear hK K; (skip))
    refine AW.region ?_
    (refine awP (op_addi rfl rfl rfl (by omega)) ?_)
    refine awP (op_move rfl rfl) ?_
    refine AWL.gh (Gh.drop 3) ?_; (simp only [nA])
    refine AWL.nil ?_
    refine ⟨(m + 1, _), by dsimp only; omega, by dsimp only; omega, ⟨rfl, rfl, rfl, rfl, rfl, rfl, rfl, rfl, rfl, rfl, rfl, rfl, rfl, trivial⟩, (by rfl), (by rfl)⟩
   have hc6 := hc
   refine AW.exit ?_; (try simp only [thenE, inBlk, Nat.reduceEqDiff, ↓reduceIte])
   clear hK K
   (try simp only [thenE, inBlk, Nat.reduceEqDiff, ↓reduceIte])
   (refine hK _ ?_; clear hK K; (skip))
   refine AW.region ?_
   (refine awP (op_addi rfl rfl rfl (by omega)) ?_)
   refine awP (op_move rfl rfl) ?_
   skip
   refine AWL.nil ?_
   refine ⟨(i + 1, _), by dsimp only; omega, by dsimp only; omega, ⟨rfl, rfl, rfl, rfl, rfl, rfl, rfl, rfl, rfl, trivial⟩, (by rfl), (by rfl)⟩
  have hc2 := hc; have hnl : i = x.length := (by have : ¬ i < x.length := (by simpa using hc2); omega); have htot := hci.tot; dsimp only at htot; rw [hnl, htot]
  refine AW.exit ?_; (try simp only [thenE, inBlk, Nat.reduceEqDiff, ↓reduceIte])
  clear hK K
  (refine hK _ ?_; clear hK K; (skip))
  (refine AW.seq_k ?_; intro K hK)
  (refine AW.seq_k ?_; intro K hK)
  refine AW.region ?_
  refine awP (op_move rfl rfl) ?_
  refine awP (op_len_ro (n := y.length) rfl rfl Try.underlying27 (.inr (.inl ⟨_, rfl, by simp⟩))) ?_
  refine awP (op_move rfl rfl) ?_
  refine AWL.nil ?_
  (refine hK _ ?_; clear hK K; (simp only [nA, ↓reduceIte]))
  refine AW.block ?_
  clear hI hc2; refine AW.loopI (fun (q : Nat × Nat) => [(4, .ro (x.map Container.av)), (5, .ro (y.map Piece.av)), (6, .ptr 2 3 0 0), (7, .ro (a.map Container.av)), (8, .ro (rest.map Piece.av)), (10, .v (.int .i64 (y.length : Nat))), (187, .ro (y.map Piece.av)), (188, .v (.int .i64 (y.length : Nat))), (189, .v (.int .i64 (q.1 : Nat)))]) (fun q => ⟨[(1, .own 65 [srcRow (l.take 2000) (rawN (l.take 2000) k2)]), (2, .any), (3, .own 30 [f.av])], q.2⟩) (fun q => q.1 ≤ y.length) (fun q => y.length - q.1) (0, _) (by simp) ⟨rfl, rfl, rfl, rfl, rfl, (by rw [hBl]; rfl), rfl, rfl, rfl, trivial⟩ rfl ?_; rintro ⟨i, ep⟩ ρ hI; dsimp only at hI ⊢; simp only [updL]
  (refine AW.seq_k ?_; intro K hK)
  refine AW.region ?_
  refine awP (op_lss rfl rfl rfl) ?_
  refine AWL.nil ?_
  (refine hK _ ?_; clear hK K; (try simp only [nA, Nat.reduceBEq, Nat.reduceEqDiff, ↓reduceIte, Nat.reduceAdd, Nat.reduceSub]))
  (refine AW.seq_k ?_; intro K hK)
  refine AW.cond rfl rfl rfl (fun hc => ?_) (fun hc => ?_)
  ·
   have hc8 := hc; have hlt : i < y.length := (by simpa using hc8)
   refine AW.skip ?_
   (refine hK _ ?_; clear hK K; (skip))
   (refine AW.seq_k ?_; intro K hK)
   refine AW.block ?_
   (refine AW.seq_k ?_; intro K hK)
   refine AW.region ?_
   refine awP (op_ia_ro i rfl (.inl rfl) rfl Try.underlying27 rfl (get_mapD hlt) (by exact sz41) (bl rfl)) ?_
   (refine awR (op_load_rop rfl rfl ag41 sz41 (bl rfl) (by decide) rfl) ?_)
   refine awJ (op_alloc rfl ze41 rfl) ?_; (simp only [nA, Nat.reduceBEq, Nat.reduceEqDiff, ↓reduceIte])
   refine awJ (op_store rfl rfl rfl rfl rfl rfl sz41 rfl (bl rfl) rfl) ?_; (simp only [nA, Nat.reduceBEq, Nat.reduceEqDiff, ↓reduceIte])
   refine AWL.nil ?_
   (refine hK _ ?_; clear hK K; (skip))
   (refine AW.seq_k ?_; intro K hK)
   refine AW.region ?_
   refine awP (op_move rfl rfl) ?_
   (refine awP (op_fa_ptr rfl rfl rfl fl41_0 (by exact sz39) (by decide) rfl) ?_)
   (refine awR (op_load_ptr rfl rfl rfl rfl ag39 sz39 (bl rfl) rfl) ?_)
   refine awJ (op_call (b := false) rfl en25 (C25 (xs := a) (p := (y.getD i default).plate) hsa.len hsa.p) (RL.cons (by exact View.same rfl) (RL.cons (by exact View.same rfl) (RL.nil))) rfl (fun h => by cases h) rfl rfl) ?_; (simp only [nA, ↓reduceIte])
   refine awP (op_move rfl rfl) ?_
   refine awP (op_extract rfl rfl rfl) ?_
   refine awP (op_extract rfl rfl rfl) ?_
   refine awP (op_assign rfl rfl) ?_
   refine awP (op_assign rfl rfl) ?_
   refine AWL.nil ?_
   (refine hK _ ?_; clear hK K; (simp only [nA, ↓reduceIte]))
   (refine AW.seq_k ?_; intro K hK)
   refine AW.region ?_
   refine awP (op_assign rfl rfl) ?_
   refine AWL.nil ?_
   (refine hK _ ?_; clear hK K; (try simp only [nA, Nat.reduceBEq, Nat.reduceEqDiff, ↓reduceIte, Nat.reduceAdd, Nat.reduceSub]))
   (refine AW.seq_k ?_; intro K hK)
   (refine AW.seq_k ?_; intro K hK)
   refine AW.region ?_
   refine awP (op_move rfl rfl) ?_
   refine awP (op_len_ro (n := rest.length) rfl rfl Try.underlying27 (.inr (.inl ⟨_, rfl, by simp⟩))) ?_
   refine awP (op_move rfl rfl) ?_
   refine AWL.nil ?_
   (refine hK _ ?_; clear hK K; (simp only [nA, ↓reduceIte]))
   refine AW.block ?_
   refine AW.loopI (fun (q : Nat × Nat) => [(4, .ro (x.map Container.av)), (5, .ro (y.map Piece.av)), (6, .ptr 2 3 0 0), (7, .ro (a.map Container.av)), (8, .ro (rest.map Piece.av)), (10, .v (.int .i64 (y.length : Nat))), (17, .ptr 3 ep 0 0), (19, .v (.bool (findL a (y.getD i default).plate).2)), (20, .v (.bool (outS rest (y.getD i default) q.1))), (187, .ro (y.map Piece.av)), (188, .v (.int .i64 (y.length : Nat))), (189, .v (.int .i64 (i : Nat))), (200, .ro (rest.map Piece.av)), (201, .v (.int .i64 (rest.length : Nat))), (202, .v (.int .i64 (q.1 : Nat)))]) (fun q => ⟨[(1, .own 65 [srcRow (l.take 2000) (rawN (l.take 2000) k2)]), (2, .any), (3, .own 30 [f.av]), (ep, .own 41 [(y.getD i default).av])], q.2⟩) (fun q => q.1 ≤ rest.length) (fun q => rest.length - q.1) (0, _) (by simp) ⟨rfl, rfl, rfl, rfl, rfl, rfl, rfl, rfl, rfl, rfl, rfl, rfl, rfl, rfl, rfl, trivial⟩ rfl ?_; rintro ⟨m, ep2⟩ ρ2 hJ; dsimp only at hJ ⊢; simp only [updL]
   (refine AW.seq_k ?_; intro K hK)
   refine AW.region ?_
   refine awP (op_lss rfl rfl rfl) ?_
   refine AWL.nil ?_
   (refine hK _ ?_; clear hK K; (try simp only [nA, Nat.reduceBEq, Nat.reduceEqDiff, ↓reduceIte, Nat.reduceAdd, Nat.reduceSub]))
   (refine AW.seq_k ?_; intro K hK)
   refine AW.cond rfl rfl rfl (fun hc => ?_) (fun hc => ?_)
   ·
    have hc9 := hc; have hm : m < rest.length := (by simpa using hc9); have hos := outS_s (p := y.getD i default) hm
    refine AW.skip ?_
    (refine hK _ ?_; clear hK K; (skip))
    (refine AW.seq_k ?_; intro K hK)
    refine AW.block ?_
    (refine AW.seq_k ?_; intro K hK)
    refine AW.region ?_
    refine awP (op_ia_ro m rfl (.inl rfl) rfl Try.underlying27 rfl (get_mapD hm) (by exact sz41) (bl rfl)) ?_
    (refine awR (op_load_rop rfl rfl ag41 sz41 (bl rfl) (by decide) rfl) ?_)
    refine awJ (op_alloc rfl ze41 rfl) ?_; (simp only [nA, Nat.reduceBEq, Nat.reduceEqDiff, ↓reduceIte])
    refine awJ (op_store rfl rfl rfl rfl rfl rfl sz41 rfl (bl rfl) rfl) ?_; (simp only [nA, Nat.reduceBEq, Nat.reduceEqDiff, ↓reduceIte])
    refine AWL.nil ?_
    (refine hK _ ?_; clear hK K; (skip))
    refine AW.region (AWL.quiet ?_)
    refine aqP (op_move rfl rfl) ?_
    refine aqP (op_move rfl rfl) ?_
    refine' aqOr' [_, _, _] [208,209,210] rfl rfl rfl rfl rfl rfl rfl rfl rfl rfl rfl rfl (fun hb => ?_) ?_; rotate_left
    ·
     (try simp only [hcS] at hb)
     (refine aqR (op_load_ptr rfl rfl rfl rfl ag41 sz41 (bl rfl) rfl) ?_)
     (refine aqR (op_load_ptr rfl rfl rfl rfl ag41 sz41 (bl rfl) rfl) ?_)
     refine aqP (op_eql41 (p := y.getD i default) (q := rest.getD m default) rfl rfl rfl) ?_; (simp only [nA, ↓reduceIte])
     (refine aqSeg rfl rfl rfl ?_; repeat (first | exact fun _ _ => rfl | refine upd_out rfl ?_))
    simp only [nA, ↓reduceIte]
    refine aqP (op_assign rfl rfl) ?_
    refine AQ.nil ?_
    (try simp only [thenE, inBlk, Nat.reduceEqDiff, ↓reduceIte])
    (refine hK _ ?_; clear hK K; (simp only [nA]))
    refine AW.region ?_
    (refine awP (op_addi rfl rfl rfl (by omega)) ?_)
    refine awP (op_move rfl rfl) ?_
    refine AWL.gh (Gh.drop 4) ?_; (simp only [nA])
    refine AWL.nil ?_
    refine ⟨(m + 1, _), by dsimp only; omega, by dsimp only; omega, ⟨rfl, rfl, rfl, rfl, rfl, rfl, rfl, rfl, (by dsimp only; rw [hos]; rfl), rfl, rfl, rfl, rfl, rfl, rfl, trivial⟩, (by rfl), (by rfl)⟩
   have hc9 := hc; have hnm : ¬ m < rest.length := (by simpa using hc9)
   refine AW.exit ?_; (try simp only [thenE, inBlk, Nat.reduceEqDiff, ↓reduceIte])
   clear hK K
   (refine hK _ ?_; clear hK K; (skip))
   (refine AW.seq_k ?_; intro K hK)
   refine AW.region ?_
   refine awP (op_move rfl rfl) ?_
   refine awP (op_move rfl rfl) ?_
   (refine awP (op_beql rfl rfl rfl Try.underlying4) ?_)
   refine AWL.nil ?_
   (refine hK _ ?_; clear hK K; (simp only [nA, ↓reduceIte]))
   refine AW.cond rfl rfl rfl (fun hc => ?_) (fun hc => ?_)
   · (exfalso; have hio := hci.inout (hsub _ (getD_memP hlt)); obtain rfl : m = rest.length := (by omega); rw [hio] at hc; revert hc; cases outS rest (y.getD i default) rest.length <;> decide)
   have hc10 := hc
   refine AW.skip ?_
   (try simp only [thenE, inBlk, Nat.reduceEqDiff, ↓reduceIte])
   (refine hK _ ?_; clear hK K; (skip))
   refine AW.region ?_
   (refine awP (op_addi rfl rfl rfl (by omega)) ?_)
   refine awP (op_move rfl rfl) ?_
   refine AWL.gh (Gh.drop 3) ?_; (simp only [nA])
   refine AWL.nil ?_
   refine ⟨(i + 1, _), by dsimp only; omega, by dsimp only; omega, ⟨rfl, rfl, rfl, rfl, rfl, rfl, rfl, rfl, rfl, trivial⟩, (by rfl), (by rfl)⟩
  have hc8 := hc
  refine AW.exit ?_; (try simp only [thenE, inBlk, Nat.reduceEqDiff, ↓reduceIte])
  clear hK K
  (refine hK _ ?_; clear hK K; (skip))
  (refine AW.seq_k ?_; intro K hK)
  refine AW.region (AWL.quiet ?_)
  refine aqP (op_move rfl rfl) ?_
  refine aqP (op_move rfl rfl) ?_
  refine aqP (op_len_ro (n := y.length) rfl rfl Try.underlying27 (.inr (.inl ⟨_, rfl, by simp⟩))) ?_
  (refine aqP (op_eql rfl rfl rfl) ?_)
  refine aqP (op_move rfl rfl) ?_
  refine' aqAnd' [_] [222] rfl rfl rfl rfl rfl rfl rfl rfl rfl rfl rfl rfl (fun hb => ?_) ?_; rotate_left
  ·
   (try simp only [hcS] at hb)
   refine aqQ (op_callQ (b := true) rfl en19 (C19) (RL.nil) rfl) ?_; (simp only [nA, ↓reduceIte])
   (refine aqSeg rfl rfl rfl ?_; repeat (first | exact fun _ _ => rfl | refine upd_out rfl ?_))
  simp only [nA, ↓reduceIte]
  refine aqP (op_assign rfl rfl) ?_
  refine AQ.nil ?_
  (refine hK _ ?_; clear hK K; (simp only [nA]))
  skip
  refine AW.ret ?_; (try simp only [thenE, inBlk, Nat.reduceEqDiff, ↓reduceIte]); exact RQ.of0 rfl (.tmp (bl rfl) rfl rfl .nil)
end Go.Proofs.Ytmdohphcolffmaa
namespace Go.Proofs.Ytmdohphcolffmaa
open Go.RowKit
set_option linter.unusedSimpArgs false
set_option linter.unusedVariables false
inductive Sh where
  | int (k : IntKind)
  | str
  | bool
  | sl (row : List Sh)
inductive Mt : AV → Sh → Prop
  | int {k : IntKind} {n : Int} (h : (Lit.int k n).wf = true) : Mt (.v (.int k n)) (.int k)
  | str {s : ByteArray} (h : s.size ≤ maxLen) : Mt (.v (.string s)) .str
  | bool {b : Bool} : Mt (.v (.bool b)) .bool
  | sl {row : List Sh} {es : List (List AV)} (hs : es.length ≤ maxLen) (h : ∀ e ∈ es, e.length = row.length) (hc : ∀ e ∈ es, ∀ (i : Nat) (x : AV) (s : Sh), e[i]? = some x → row[i]? = some s → Mt x s) : Mt (.ro es) (.sl row)
theorem Mt.rows {es : List (List AV)} {row : List Sh} (h : Mt (.ro es) (.sl row)) : ∀ e ∈ es, RL Mt e row := by
  cases h with
  | sl hs h hc => exact fun e he => ⟨h e he, hc e he⟩
theorem rows_of {α : Type} {f : α → List AV} : ∀ {es : List (List AV)}, (∀ e ∈ es, ∃ p, e = f p) → ∃ ps : List α, es = ps.map f
  | [], _ => ⟨[], rfl⟩
  | e :: es, h => by
    obtain ⟨p, rfl⟩ := h e (by simp)
    obtain ⟨ps, rfl⟩ := rows_of (es := es) fun e he => h e (by simp [he])
    exact ⟨p :: ps, rfl⟩
def fieldsSh (sh : TypeId → Option (List Sh)) (P : Program) : Nat → List Field → Option (List Sh)
  | _, [] => some []
  | o, f :: fs => if f.offset = o then (sh f.type).bind fun r => if r.length = P.cellsOf f.type then (fieldsSh sh P (o + r.length) fs).map (r ++ ·) else none else none
def copies (r : List Sh) : Nat → List Sh
  | 0 => []
  | n + 1 => r ++ copies r n
def shOf (P : Program) : Nat → TypeId → Option (List Sh)
  | 0, _ => none
  | n + 1, t => match P.underlying t with
    | some (.int k) => some [.int k]
    | some .string => some [.str]
    | some .bool => some [.bool]
    | some (.slice e) => (shOf P n e).map fun r => [.sl r]
    | some (.struct fs) => (fieldsSh (shOf P n) P 0 fs.toList).bind fun r => if r.length = P.cellsOf t then some r else none
    | some (.array k e) => (shOf P n e).bind fun r => if r.length = P.cellsOf e ∧ P.cellsOf t = k * P.cellsOf e then some (copies r k) else none
    | _ => none
theorem RL.cons' {α β : Type} {R : α → β → Prop} {us : List α} {xs : List β} {u : α} (h : RL R (u :: us) xs) : ∃ x xs', xs = x :: xs' ∧ R u x ∧ RL R us xs' := by
  cases xs with
  | nil => have := h.1; simp at this
  | cons x xs => exact ⟨x, xs, rfl, h.2 0 u x rfl rfl, by have := h.1; simpa using this, fun i a b ha hb => h.2 (i + 1) a b (by simpa using ha) (by simpa using hb)⟩
theorem take_split {α : Type} (l : List α) (o m n : Nat) : (l.drop o).take (m + n) = (l.drop o).take m ++ (l.drop (o + m)).take n := by
  rw [List.take_add, List.drop_drop]
theorem flat_idx {α : Type} {sz : Nat} : ∀ {es : List (List α)}, (∀ e ∈ es, e.length = sz) → ∀ {j : Nat}, j < es.flatten.length → ∃ e u, es[j / sz]? = some e ∧ e[j % sz]? = some u ∧ es.flatten[j]? = some u
  | [], _, j, h => by simp at h
  | e :: es, hs, j, h => by
    have he : e.length = sz := hs e (by simp)
    have hs' : ∀ e ∈ es, e.length = sz := fun e he => hs e (by simp [he])
    rw [List.flatten_cons] at h ⊢
    by_cases hj : j < sz
    · rw [List.getElem?_append_left (by omega), Nat.div_eq_of_lt hj, Nat.mod_eq_of_lt hj]
      exact ⟨e, e[j]'(by omega), rfl, List.getElem?_eq_getElem _, List.getElem?_eq_getElem _⟩
    rw [List.length_append] at h
    obtain ⟨e1, u, h1, h2, h3⟩ := flat_idx hs' (j := j - sz) (by omega)
    have h0 : 0 < sz := by
      rcases Nat.eq_zero_or_pos sz with h0 | h0
      · subst h0
        have : es.flatten = [] := List.flatten_eq_nil_iff.2 fun e he => List.eq_nil_of_length_eq_zero (hs' e he)
        rw [this] at h
        simp at h
        omega
      exact h0
    rw [List.getElem?_append_right (by omega), he, Nat.div_eq_sub_div h0 (by omega), Nat.mod_eq_sub_mod (by omega)]
    exact ⟨e1, u, by simpa using h1, h2, h3⟩
section
variable {H : Type} {enc : TypeId × Value → H} {P : Program} {w : World} {base : Nat} {spare : Nat → Bool} {held : Bool}
theorem fields_open {S : Nat → Prop} {sh : TypeId → Option (List Sh)} {n : Nat} {cs : List Value} (ih : ∀ t cs x r, sh t = some r → DataW.trod enc P w base spare held n t cs = some x → ∃ xs, RL (Rep P S w []) cs xs ∧ RL Mt xs r) :
    ∀ (fs : List Field) (o : Nat) (r : List Sh), fieldsSh sh P o fs = some r → (∀ f ∈ fs, ∃ y, DataW.trod enc P w base spare held n f.type ((cs.drop f.offset).take (P.cellsOf f.type)) = some y) →
      ∃ xs, RL (Rep P S w []) ((cs.drop o).take r.length) xs ∧ RL Mt xs r
  | [], o, r, h, _ => by
    simp only [fieldsSh, Option.some.injEq] at h
    subst h
    exact ⟨[], by simpa using RL.nil, RL.nil⟩
  | f :: fs, o, r, h, hf => by
    unfold fieldsSh at h
    split at h
    · rename_i ho
      obtain ⟨r1, h1, h2⟩ := Option.bind_eq_some_iff.1 h
      split at h2
      · rename_i hl
        obtain ⟨r2, h3, h4⟩ := Option.map_eq_some_iff.1 h2
        subst h4
        obtain ⟨y, hy⟩ := hf f (by simp)
        obtain ⟨xs1, a1, a2⟩ := ih _ _ _ _ h1 hy
        obtain ⟨xs2, b1, b2⟩ := fields_open ih fs (o + r1.length) r2 h3 fun f hf' => hf f (by simp [hf'])
        refine ⟨xs1 ++ xs2, ?_, a2.append b2⟩
        rw [List.length_append, take_split]
        rw [ho, ← hl] at a1
        exact a1.append b1
      cases h2
    cases h
theorem copies_open {S : Nat → Prop} {r : List Sh} {n c : Nat} {e : TypeId} {cs : List Value} (hr : r.length = c) (ih : ∀ cs x, DataW.trod enc P w base spare held n e cs = some x → ∃ xs, RL (Rep P S w []) cs xs ∧ RL Mt xs r) :
    ∀ (m o : Nat), (∀ i, i < m → ∃ y, DataW.trod enc P w base spare held n e ((cs.drop (o + i * c)).take c) = some y) → ∃ xs, RL (Rep P S w []) ((cs.drop o).take (m * c)) xs ∧ RL Mt xs (copies r m)
  | 0, o, _ => ⟨[], by simpa using RL.nil, RL.nil⟩
  | m + 1, o, h => by
    obtain ⟨y, hy⟩ := h 0 (by omega)
    rw [Nat.zero_mul, Nat.add_zero] at hy
    obtain ⟨xs1, a1, a2⟩ := ih _ _ hy
    obtain ⟨xs2, b1, b2⟩ := copies_open hr ih m (o + c) fun i hi => by
      have := h (i + 1) (by omega)
      rw [show o + (i + 1) * c = o + c + i * c by rw [Nat.succ_mul]; omega] at this
      exact this
    refine ⟨xs1 ++ xs2, ?_, a2.append b2⟩
    rw [Nat.succ_mul, Nat.add_comm (m * c) c, take_split]
    exact a1.append b1
theorem Rep.small {S : Nat → Prop} {A : Option Addr} {len c : Nat} {es : List (List AV)} (h : Rep P S w [] (.slice A len c) (.ro es)) : es.length ≤ maxLen := by
  obtain ⟨-, A', c', sz, us, e, h1, h2, -⟩ := h.ro_inv
  exact Nat.le_trans h1 h2
theorem open_sh : ∀ (m fuel : Nat) (t : TypeId) (cs : List Value) (x : DataW H × List MemPlace) (r : List Sh), shOf P m t = some r → DataW.trod enc P w base spare held fuel t cs = some x → ∃ xs, RL (Rep P (fun k => k < w.heap.size) w []) cs xs ∧ RL Mt xs r
  | 0, _, _, _, _, _, h, _ => by simp [shOf] at h
  | m + 1, fuel, t, cs, x, r, h, hx => by
    unfold shOf at h
    split at h
    · rename_i k ht
      injection h with h; subst h
      obtain ⟨n, rfl, _, hw⟩ := DataW.trod_int ht hx
      exact ⟨_, .cons (.v rfl) .nil, .cons (.int hw) .nil⟩
    · rename_i ht
      injection h with h; subst h
      obtain ⟨s, rfl, _, hw⟩ := DataW.trod_string ht hx
      exact ⟨_, .cons (.v rfl) .nil, .cons (.str hw) .nil⟩
    · rename_i ht
      injection h with h; subst h
      obtain ⟨b, rfl, _⟩ := DataW.trod_bool ht hx
      exact ⟨_, .cons (.v rfl) .nil, .cons .bool .nil⟩
    · rename_i e ht
      obtain ⟨row, h1, h2⟩ := Option.map_eq_some_iff.1 h
      subst h2
      rcases Go.Deep.open_slice ht hx with ⟨rfl, _⟩ | ⟨a, len, cap, mm, n, D, Pl, rfl, hb, hl, hm, hmm, _, hel⟩
      · exact ⟨_, .cons rep_ro_nil .nil, .cons (.sl (Nat.zero_le _) (by simp) (by simp)) .nil⟩
      have hlm : len ≤ mm := by rw [hmm]; split <;> omega
      have key : ∀ i, i < len → ∃ p : List Value × List AV, w.cells? base (a.add (i * P.cellsOf e)) (P.cellsOf e) = some p.1 ∧ RL (Rep P (fun k => k < w.heap.size) w []) p.1 p.2 ∧ RL Mt p.2 row := fun i hi => by
        obtain ⟨cs', c1, c2⟩ := hel i (by omega)
        obtain ⟨xs, c3, c4⟩ := open_sh m _ _ _ _ _ h1 c2
        exact ⟨(cs', xs), c1, c3, c4⟩
      obtain ⟨F, hF⟩ := Go.Deep.choose_lt key
      have lv : ∀ l ∈ (List.range len).map (fun i => (F i).1), l.length = P.cellsOf e := fun l hl' => by
        obtain ⟨i, hi, rfl⟩ := List.mem_map.1 hl'
        exact (World.cells?_some (hF i (List.mem_range.1 hi)).1).2.1
      have lx : ∀ l ∈ (List.range len).map (fun i => (F i).2), l.length = P.cellsOf e := fun l hl' => by
        obtain ⟨i, hi, rfl⟩ := List.mem_map.1 hl'
        rw [← (hF i (List.mem_range.1 hi)).2.1.1]
        exact (World.cells?_some (hF i (List.mem_range.1 hi)).1).2.1
      have hlen : ((List.range len).map fun i => (F i).2).length = len := by simp
      have hfl : ((List.range len).map fun i => (F i).1).flatten.length = ((List.range len).map fun i => (F i).2).flatten.length := by
        rw [List.length_flatten, List.length_flatten]
        congr 1
        rw [List.map_map, List.map_map]
        exact List.map_congr_left fun i hi => (hF i (List.mem_range.1 hi)).2.1.1
      have hrep : Rep P (fun k => k < w.heap.size) w [] (.slice (some a) ((List.range len).map fun i => (F i).2).length cap) (.ro ((List.range len).map fun i => (F i).2)) := by
        refine Rep.ro (sz := P.cellsOf e) (us := ((List.range len).map fun i => (F i).1).flatten) (by rw [hlen]; exact hl) hm lx (fun hn => ?_) hfl fun i u x hu hx' => ?_
        · have hget : ∀ j u, ((List.range len).map fun i => (F i).1).flatten[j]? = some u → w.cell? (a.add j) = some u := fun j u hu => by
            obtain ⟨l, u', q1, q2, q3⟩ := flat_idx lv (j := j) (List.getElem?_eq_some_iff.1 hu).1
            rw [q3] at hu
            injection hu with hu; subst hu
            rw [List.getElem?_map] at q1
            have hq : j / P.cellsOf e < len := by
              have := (List.getElem?_eq_some_iff.1 (show ((List.range len).map fun i => (F i).1)[j / P.cellsOf e]? = some l by rw [List.getElem?_map]; exact q1)).1
              simpa using this
            rw [List.getElem?_range hq] at q1
            injection q1 with q1; subst q1
            have hc := (World.cells?_some (hF _ hq).1)
            have hp : 0 < P.cellsOf e := by
              have := (List.getElem?_eq_some_iff.1 q2).1
              rw [hc.2.1] at this; omega
            have hcell := hc.2.2 (j % P.cellsOf e) (Nat.mod_lt _ hp)
            rw [q2, Go.Deep.add_add, Nat.mul_comm, Nat.div_add_mod] at hcell
            exact hcell
          have h0 := hget 0 _ (List.getElem?_eq_getElem hn)
          obtain ⟨g, o, sp⟩ := a
          have : sp = none := by simpa [Addr.add] using World.cell?_spot h0
          subst this
          refine ⟨g, o, rfl, World.block_lt_of_cell? w _ h0, fun j u hu => ?_⟩
          have := hget j u hu
          rw [add_off] at this
          exact this
        obtain ⟨l, u', q1, q2, q3⟩ := flat_idx lv (j := i) (List.getElem?_eq_some_iff.1 hu).1
        obtain ⟨l2, u2, p1, p2, p3⟩ := flat_idx lx (j := i) (List.getElem?_eq_some_iff.1 hx').1
        rw [q3] at hu
        injection hu with hu; subst hu
        rw [p3] at hx'
        injection hx' with hx'; subst hx'
        rw [List.getElem?_map] at q1 p1
        have hq : i / P.cellsOf e < len := by
          have := (List.getElem?_eq_some_iff.1 (show ((List.range len).map fun i => (F i).1)[i / P.cellsOf e]? = some l by rw [List.getElem?_map]; exact q1)).1
          simpa using this
        rw [List.getElem?_range hq] at q1 p1
        injection q1 with q1; subst q1
        injection p1 with p1; subst p1
        exact (hF _ hq).2.1.2 _ _ _ q2 p2
      rw [hlen] at hrep
      refine ⟨_, .cons hrep .nil, .cons (.sl hrep.small (fun l hl' => ?_) fun l hl' => ?_) .nil⟩
      · obtain ⟨i, hi, rfl⟩ := List.mem_map.1 hl'
        exact (hF i (List.mem_range.1 hi)).2.2.1
      obtain ⟨i, hi, rfl⟩ := List.mem_map.1 hl'
      exact (hF i (List.mem_range.1 hi)).2.2.2
    · rename_i fs ht
      obtain ⟨r1, h1, h2⟩ := Option.bind_eq_some_iff.1 h
      split at h2
      · rename_i hl
        injection h2 with h2; subst h2
        obtain ⟨ys, n, _, _, hcl, hyl, hf⟩ := DataW.trod_struct ht hx
        obtain ⟨xs, a1, a2⟩ := fields_open (fun t cs x r => open_sh m n t cs x r) fs.toList 0 r1 h1 (cs := cs) fun f hf' => by
          obtain ⟨i, hi, rfl⟩ := List.getElem_of_mem hf'
          have := hf i fs.toList[i] (by simp at hi; simp [hi])
          exact ⟨_, this.trans (List.getElem?_eq_getElem (by rw [hyl]; simpa using hi))⟩
        rw [List.drop_zero, hl, ← hcl, List.take_length] at a1
        exact ⟨xs, a1, a2⟩
      cases h2
    · rename_i k e ht
      obtain ⟨r1, h1, h2⟩ := Option.bind_eq_some_iff.1 h
      split at h2
      · rename_i hl
        injection h2 with h2; subst h2
        obtain ⟨ys, n, _, _, hcl, hyl, hf⟩ := DataW.trod_array ht hx
        obtain ⟨xs, a1, a2⟩ := copies_open (cs := cs) hl.1 (fun cs x hx => open_sh m n e cs x r1 h1 hx) k 0 fun i hi => by
          have := hf i hi
          rw [Nat.zero_add]
          exact ⟨_, this.trans (List.getElem?_eq_getElem (by omega))⟩
        rw [List.drop_zero, ← hl.2, ← hcl, List.take_length] at a1
        exact ⟨xs, a1, a2⟩
      cases h2
    cases h
/-- A datum of one cell. -/
theorem open_one {m : Nat} {t : TypeId} {v : Value} {s : Sh} {d : DataW H} {ps : List MemPlace} (hs : shOf P m t = some [s]) (hv : v.cells = #[v]) (h : DataW.Trod enc P w base spare held t v d ps) : ∃ x, AggOK P (fun k => k < w.heap.size) w (insT []) [] v x ∧ Mt x s := by
  obtain ⟨fuel, hf⟩ := h
  rw [hv] at hf
  obtain ⟨xs, a1, a2⟩ := open_sh m fuel t [v] _ [s] hs hf
  obtain ⟨x, xs', rfl, b1, b2⟩ := a1.cons'
  obtain ⟨x2, xs2, q, c1, -⟩ := a2.cons'
  injection q with q _
  subst q
  refine ⟨x, ?_, c1⟩
  have hr := b1.ref (T := insT []) (vals := [])
  cases c1 <;> exact hr
end
theorem Spec.small {P : Program} {f : FuncId} {ins xs : List AV} {Q : List AV → List AV → Prop} {es : List (List AV)} (k : Nat) (hk : xs[k]? = some (.ro es)) (h : es.length ≤ 9223372036854775807 → Spec P f ins xs Q) : Spec P f ins xs Q := fun w S vals bss vs c => by
  obtain ⟨u, hu, hr⟩ := c.args.at_ hk
  have hr : Rep P S w [] u (.ro es) := hr
  obtain ⟨-, A, cc, sz, us, e, h1, h2, -⟩ := hr.ro_inv
  exact h (Nat.le_trans (Nat.le_trans h1 h2) (by decide)) w S vals bss vs c
/-- What a cell may hold, taken apart. -/
theorem Mt.i64 {x : AV} (h : Mt x (.int .i64)) : ∃ n, x = .v (.int .i64 n) := by cases h; exact ⟨_, rfl⟩
theorem Mt.u8 {x : AV} (h : Mt x (.int .u8)) : ∃ n, x = .v (.int .u8 n) := by cases h; exact ⟨_, rfl⟩
theorem Mt.sl_ {x : AV} {r : List Sh} (h : Mt x (.sl r)) : ∃ es, x = .ro es := by cases h; exact ⟨_, rfl⟩
end Go.Proofs.Ytmdohphcolffmaa
namespace Go.Proofs.Ytmdohphcolffmaa
open Go.RowKit
set_option linter.unusedSimpArgs false
set_option linter.unusedVariables false
set_option maxRecDepth 100000
abbrev decIntSh : List Sh := [.int .i64]
theorem decInt {xs : List AV} (h : RL Mt xs decIntSh) : ∃ c : Int, xs = iv c := by
  obtain ⟨x0, xs, rfl, h0, h⟩ := h.cons_inv
  obtain rfl := h.nil_inv
  obtain ⟨v0, rfl⟩ := Mt.i64 h0
  exact ⟨v0, rfl⟩
abbrev decIntsSh : Sh := .sl decIntSh
theorem decInts {x : AV} (h : Mt x decIntsSh) : ∃ l : List Int, x = .ro (l.map iv) := by
  obtain ⟨es, rfl⟩ := h.sl_
  obtain ⟨l, rfl⟩ := rows_of fun e he => decInt (h.rows e he)
  exact ⟨l, rfl⟩
abbrev decPieceSh : List Sh := [.int .i64, .int .i64, .int .i64, .int .i64, .int .i64]
abbrev decPlateSh : List Sh := [.int .i64, .int .i64, .int .i64]
abbrev decContSh : List Sh := [.int .i64, .str, .int .i64, .str, .int .i64, .int .i64, .int .i64, .int .i64, .int .i64, .int .i64, .sl decPieceSh]
abbrev decContsSh : Sh := .sl decContSh
end Go.Proofs.Ytmdohphcolffmaa
