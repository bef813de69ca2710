import Derived.Test.YtdnofpggdddimaaVve
import Derived.RangeFuncNested
import Derived.RangeFuncBound
import Derived.RangeFuncCalls
import Derived.RangeFuncLeaves
import Derived.Shelf.Abstract
import Derived.Shelf.RegionOpen
import Derived.OwnWalkIn
import Derived.TacticsInMore
import Derived.LoopNIn
import Derived.LoopIn
namespace Go.Proofs.Ytdnofpggdddimaa
open Go.RowKit
set_option linter.unusedSimpArgs false
set_option linter.unusedVariables false
set_option maxRecDepth 100000
def bareC (c : Container) : Container := { c with pieces := [] }
abbrev midB (l : List Container) (i : Nat) : List (List AV) := (l.take i).map (fun c => (bareC c).av) ++ (l.drop i).map Container.av
theorem bare_map (l : List Container) : l.map (fun c => (bareC c).av) = (l.map bareC).map Container.av := by rw [List.map_map]; rfl
theorem midB_get {l : List Container} {i : Nat} {c : Container} (h : l[i]? = some c) : (midB l i)[i]? = some c.av := by
  have hi := (List.getElem?_eq_some_iff.1 h).1
  unfold midB
  rw [List.getElem?_append_right (by simp; omega)]
  have : i - ((l.take i).map (fun c => (bareC c).av)).length = 0 := by simp; omega
  rw [this, drop_cons h]; rfl
abbrev nilC (c : Container) : List AV := c.av.set 10 (.v (.slice none 0 0))
theorem midB_set {l : List Container} {i : Nat} {c : Container} (h : l[i]? = some c) (r : List AV) : (midB l i).set i r = (l.take i).map (fun c => (bareC c).av) ++ r :: (l.drop (i + 1)).map Container.av := by
  have hi := (List.getElem?_eq_some_iff.1 h).1
  unfold midB
  rw [List.set_append_right _ _ (by simp; omega)]
  have : i - ((l.take i).map (fun c => (bareC c).av)).length = 0 := by simp; omega
  rw [this, drop_cons h]; rfl
theorem midB_at {l : List Container} {i : Nat} {c : Container} (h : l[i]? = some c) (r : List AV) : ((l.take i).map (fun c => (bareC c).av) ++ r :: (l.drop (i + 1)).map Container.av)[i]? = some r := by
  have hi := (List.getElem?_eq_some_iff.1 h).1
  rw [List.getElem?_append_right (by simp; omega)]
  have : i - ((l.take i).map (fun c => (bareC c).av)).length = 0 := by simp; omega
  rw [this]; rfl
theorem midB_end {l : List Container} {i : Nat} {c : Container} (h : l[i]? = some c) : ((l.take i).map (fun c => (bareC c).av) ++ nilC c :: (l.drop (i + 1)).map Container.av).set i ((nilC c).set 10 (.ro [])) = midB l (i + 1) := by
  have hi := (List.getElem?_eq_some_iff.1 h).1
  rw [List.set_append_right _ _ (by simp; omega)]
  have : i - ((l.take i).map (fun c => (bareC c).av)).length = 0 := by simp; omega
  unfold midB
  rw [this, List.take_add_one, h, List.map_append, List.append_assoc]
  rfl
theorem C66 {l : List Container} (hl : l.length ≤ 1000000) : Fn Try.prog 66 [] [.ro (l.map Container.av)] [.ro ((l.map bareC).map Container.av)] [] := by
  refine Spec.body Try.func66 rfl Try.ntmps66 (by simp) rfl ?_; intro S0 own0 v0 w0
  (refine AW.seq_k ?_; intro K hK)
  refine AW.region ?_
  refine awP (op_assign rfl rfl) ?_
  refine AWL.nil ?_
  (refine hK _ ?_; clear hK K; (simp only [nA, Nat.reduceBEq, Nat.reduceEqDiff, ↓reduceIte, Nat.reduceAdd, Nat.reduceSub]))
  (refine AW.seq_k ?_; intro K hK)
  refine AW.region ?_
  refine awP (op_move rfl rfl) ?_
  refine awJ (op_call (b := false) rfl en84 (C84 (l := l) hl) (RL.cons (by exact View.same rfl) (RL.nil)) rfl (fun h => by cases h) rfl rfl) ?_; (simp only [nA, Nat.reduceBEq, Nat.reduceEqDiff, ↓reduceIte])
  refine awP (op_assign rfl rfl) ?_
  refine AWL.nil ?_
  (refine hK _ ?_; clear hK K; (simp only [nA]))
  (refine AW.seq_k ?_; intro K hK)
  (refine AW.seq_k ?_; intro K hK)
  refine AW.region ?_
  refine awP (op_move rfl rfl) ?_
  (refine awP (op_len_sl rfl rfl rfl Try.underlying23) ?_)
  refine awP (op_move rfl rfl) ?_
  refine AWL.nil ?_
  (refine hK _ ?_; clear hK K; (simp only [nA]))
  refine AW.block ?_
  refine AW.loopI (fun (i : Nat) => [(3, .sl 0 1 0 l.length), (8, .v (.int .i64 (l.length : Nat))), (9, .v (.int .i64 (i : Nat)))]) (fun i => ⟨[(1, .own 77 (midB l i))], 2⟩) (fun i => i ≤ l.length) (fun i => l.length - i) 0 (by simp) ⟨rfl, rfl, rfl, trivial⟩ (by simp [midB]) ?_; intro i ρ hi; simp only [updL]
  (refine AW.seq_k ?_; intro K hK)
  refine AW.region ?_
  refine awP (op_lss rfl rfl rfl) ?_
  refine AWL.nil ?_
  (refine hK _ ?_; clear hK K; (simp only [nA, Nat.reduceBEq, Nat.reduceEqDiff, ↓reduceIte, Nat.reduceAdd, Nat.reduceSub]))
  (refine AW.seq_k ?_; intro K hK)
  refine AW.cond rfl rfl rfl (fun hc => ?_) (fun hc => ?_)
  ·
   (try simp only [hcS] at hc); have hc1 := hc; have hlt : i < l.length := (by simpa using hc1); obtain ⟨c, hci⟩ : ∃ c, l[i]? = some c := ⟨l[i], List.getElem?_eq_getElem hlt⟩
   refine AW.skip ?_
   (refine hK _ ?_; clear hK K; (skip))
   (refine AW.seq_k ?_; intro K hK)
   refine AW.block ?_
   (refine AW.seq_k ?_; intro K hK)
   refine AW.region ?_
   refine awP (op_move rfl rfl) ?_
   refine awP (op_assign rfl rfl) ?_
   refine AWL.nil ?_
   (refine hK _ ?_; clear hK K; (simp only [nA, ↓reduceIte]))
   refine AW.region ?_
   refine awP (op_move rfl rfl) ?_
   refine awP (op_move rfl rfl) ?_
   refine awP (op_ia_sl i 11 rfl rfl rfl rfl Try.underlying23 rfl hlt (by exact sz77) (Nat.zero_add _)) ?_
   (refine awP (op_fa_ptr rfl rfl rfl fl77_7 (by exact sz53) (by decide) rfl) ?_)
   refine awJ (op_store (r := 0) rfl rfl rfl rfl (midB_get hci) rfl sz53 rfl (bl rfl) (by exact midB_set hci (nilC c))) ?_; (simp only [nA, ↓reduceIte])
   refine AWL.nil ?_
   simp only [thenE, inBlk, Nat.reduceEqDiff, ↓reduceIte]
   (refine hK _ ?_; clear hK K; (skip))
   refine AW.region ?_
   (refine awP (op_addi rfl rfl rfl (by omega)) ?_)
   refine awP (op_move rfl rfl) ?_
   refine AWL.gh (Gh.cell0 (r := 0) (A := none) (c := 0) i 10 rfl (midB_at hci (nilC c)) rfl (by decide) (midB_end hci)) ?_; (simp only [nA])
   refine AWL.nil ?_
   refine ⟨i + 1, by omega, by omega, ⟨rfl, rfl, rfl, trivial⟩, (by rfl), (by rfl)⟩
  (try simp only [hcS] at hc); have hc1 := hc; obtain rfl : i = l.length := (by simp at hc1; omega); simp only [midB, List.take_length, List.drop_length, List.map_nil, List.append_nil]
  refine AW.exit ?_; (simp only [thenE, inBlk, Nat.reduceEqDiff, ↓reduceIte])
  clear hK K
  (refine hK _ ?_; clear hK K; (skip))
  (refine AW.seq_k ?_; intro K hK)
  refine AW.region ?_
  refine awP (op_move rfl rfl) ?_
  refine awP (op_assign rfl rfl) ?_
  refine AWL.nil ?_
  (refine hK _ ?_; clear hK K; (simp only [nA, ↓reduceIte]))
  refine AW.gh (Gh.freeze 2 (bl rfl) rfl rfl (by rw [bare_map]; exact conv_flat _) (es' := (l.map bareC).map Container.av) (by rw [bare_map]; exact List.take_of_length_le (by simp))) ?_; (simp only [nA, Nat.reduceBEq, Nat.reduceEqDiff, ↓reduceIte, Nat.reduceAdd, Nat.reduceSub])
  refine AW.ret ?_; exact RQ.of0 rfl (.tmp (bl rfl) rfl rfl .nil)
def copyH (h : Hand) : Hand := { h with conts := h.conts.map bareC }
theorem C60 {h : Hand} (hs : h.Sm) : Fn Try.prog 60 [] [.agg h.av] [.agg (copyH h).av] [] := by
  refine Spec.body Try.func60 rfl Try.ntmps60 (by simp) rfl ?_; intro S0 own0 v0 w0
  (refine AW.seq_k ?_; intro K hK)
  refine AW.region ?_
  refine awJ (op_box rfl rfl rfl sz26 rfl) ?_; (simp only [nA, Nat.reduceBEq, Nat.reduceEqDiff, ↓reduceIte])
  refine awJ (op_alloc rfl ze26 rfl) ?_; (simp only [nA, Nat.reduceBEq, Nat.reduceEqDiff, ↓reduceIte])
  refine AWL.nil ?_
  (refine hK _ ?_; clear hK K; (simp only [nA, Nat.reduceBEq, Nat.reduceEqDiff, ↓reduceIte, Nat.reduceAdd, Nat.reduceSub]))
  (refine AW.seq_k ?_; intro K hK)
  refine AW.adk 10 (FixL [(0, 1, .own 26 [h.av])]) mix rfl ?_
  (refine akP 0 rfl (fun T' ok => op_fa_ptr rfl rfl (by exact ok.1) fl26_4 (by exact sz22) (by decide) rfl) (by exact ⟨rfl, trivial⟩) (by kernel_rfl) (by kernel_rfl) (by kernel_rfl) ?_); (simp only [nA, Nat.reduceBEq, Nat.reduceEqDiff, ↓reduceIte])
  (refine akR 1 rfl (fun T' ok => op_load_ptr1 rfl rfl (by exact ok.1) rfl ag22 rfl rfl) (by exact ⟨rfl, trivial⟩) (by kernel_rfl) (by kernel_rfl) (by kernel_rfl) ?_); (simp only [nA, Nat.reduceBEq, Nat.reduceEqDiff, ↓reduceIte, Nat.reduceAdd, Nat.reduceSub])
  (refine akP 3 rfl (fun T' ok => op_fa_ptr rfl rfl (by exact ok.1) fl26_5 (by exact sz23) (by decide) rfl) (by exact ⟨rfl, trivial⟩) (by kernel_rfl) (by kernel_rfl) (by kernel_rfl) ?_); (simp only [nA, Nat.reduceBEq, Nat.reduceEqDiff, ↓reduceIte, Nat.reduceAdd, Nat.reduceSub])
  (refine akR 4 rfl (fun T' ok => op_load_ptr1 rfl rfl (by exact ok.1) rfl ag23 rfl rfl) (by exact ⟨rfl, trivial⟩) (by kernel_rfl) (by kernel_rfl) (by kernel_rfl) ?_); (simp only [nA, Nat.reduceBEq, Nat.reduceEqDiff, ↓reduceIte, Nat.reduceAdd, Nat.reduceSub])
  (refine akP 6 rfl (fun T' ok => op_fa_ptr rfl rfl (by exact ok.1) fl26_6 (by exact sz24) (by decide) rfl) (by exact ⟨rfl, trivial⟩) (by kernel_rfl) (by kernel_rfl) (by kernel_rfl) ?_); (simp only [nA, Nat.reduceBEq, Nat.reduceEqDiff, ↓reduceIte, Nat.reduceAdd, Nat.reduceSub])
  (refine akR 7 rfl (fun T' ok => op_load_ptr1 rfl rfl (by exact ok.1) rfl ag24 rfl rfl) (by exact ⟨rfl, trivial⟩) (by kernel_rfl) (by kernel_rfl) (by kernel_rfl) ?_); (simp only [nA, Nat.reduceBEq, Nat.reduceEqDiff, ↓reduceIte, Nat.reduceAdd, Nat.reduceSub])
  refine akF 2 rfl (fun T' ok => op_callS rfl en65 (C65 (l := h.grants) (by have := hs.g; omega)) (RL.cons (by exact View.same rfl) (RL.nil)) rfl rfl rfl) (by exact ⟨rfl, trivial⟩) (by kernel_rfl) (by kernel_rfl) (by kernel_rfl) ?_; (simp only [nA, Nat.reduceBEq, Nat.reduceEqDiff, ↓reduceIte, Nat.reduceAdd, Nat.reduceSub])
  (refine akP 9 rfl (fun T' ok => op_fa_ptr rfl rfl (by exact ok.1) fl26_4 (by exact sz22) (by decide) rfl) (by exact ⟨rfl, trivial⟩) (by kernel_rfl) (by kernel_rfl) (by kernel_rfl) ?_); (simp only [nA, Nat.reduceBEq, Nat.reduceEqDiff, ↓reduceIte, Nat.reduceAdd, Nat.reduceSub])
  refine akF 5 rfl (fun T' ok => op_callS rfl en66 (C66 (l := h.conts) (by have := hs.c; omega)) (RL.cons (by exact View.same rfl) (RL.nil)) rfl rfl rfl) (by exact ⟨rfl, trivial⟩) (by kernel_rfl) (by kernel_rfl) (by kernel_rfl) ?_; (simp only [nA, Nat.reduceBEq, Nat.reduceEqDiff, ↓reduceIte, Nat.reduceAdd, Nat.reduceSub])
  refine akF 8 rfl (fun T' ok => op_callS rfl en69 (C69 (l := h.log) (by have := hs.l; omega)) (RL.cons (by exact View.same rfl) (RL.nil)) rfl rfl rfl) (by exact ⟨rfl, trivial⟩) (by kernel_rfl) (by kernel_rfl) (by kernel_rfl) ?_; (simp only [nA, Nat.reduceBEq, Nat.reduceEqDiff, ↓reduceIte, Nat.reduceAdd, Nat.reduceSub])
  refine akL 10 rfl (op_store rfl rfl rfl rfl rfl rfl sz22 rfl (bl rfl) rfl) (by kernel_rfl) (by decide) ?_; (simp only [nA, ↓reduceIte])
  (refine akL 11 rfl (OpP.j (op_fa_ptr rfl rfl rfl fl26_5 (by exact sz23) (by decide) rfl)) (by kernel_rfl) (by decide) ?_); (simp only [nA, Nat.reduceBEq, Nat.reduceEqDiff, ↓reduceIte, Nat.reduceAdd, Nat.reduceSub])
  refine akL 12 rfl (op_store rfl rfl rfl rfl rfl rfl sz23 rfl (bl rfl) rfl) (by kernel_rfl) (by decide) ?_; (simp only [nA, ↓reduceIte])
  (refine akL 13 rfl (OpP.j (op_fa_ptr rfl rfl rfl fl26_6 (by exact sz24) (by decide) rfl)) (by kernel_rfl) (by decide) ?_); (simp only [nA, Nat.reduceBEq, Nat.reduceEqDiff, ↓reduceIte, Nat.reduceAdd, Nat.reduceSub])
  refine akL 14 rfl (op_store rfl rfl rfl rfl rfl rfl sz24 rfl (bl rfl) rfl) (by kernel_rfl) (by decide) ?_; (simp only [nA, ↓reduceIte])
  refine akDone (by kernel_rfl) ?_
  (refine hK _ ?_; clear hK K; (skip))
  (refine AW.seq_k ?_; intro K hK)
  refine AW.region ?_
  (refine awR (op_load_ptr rfl rfl rfl rfl ag26 sz26 (bl rfl) rfl) ?_)
  refine awJ (op_store rfl rfl rfl rfl rfl rfl sz26 rfl (bl rfl) rfl) ?_; (simp only [nA, Nat.reduceBEq, Nat.reduceEqDiff, ↓reduceIte])
  refine AWL.nil ?_
  (refine hK _ ?_; clear hK K; (skip))
  skip
  refine AW.ret ?_; exact RQ.of0 rfl (.cell (bl rfl) rfl rfl rfl ag26 sz26 (bl rfl) rfl rfl .nil)
end Go.Proofs.Ytdnofpggdddimaa
namespace Go.Proofs.Ytdnofpggdddimaa
open Go.RowKit
set_option linter.unusedSimpArgs false
set_option linter.unusedVariables false
set_option maxRecDepth 100000
open Go.Shelf
attribute [local go_sem] Oper.semAt_some
theorem C77 {l : List Op} : Fn Try.prog 77 [] [.ro (l.map Op.av)] [.clo 90 [.rop [.ro (l.map Op.av)]]] [] := by
  refine Spec.body Try.func77 rfl Try.ntmps77 (by simp) rfl ?_; intro S0 own0 v0 w0
  (refine AW.seq_k ?_; intro K hK)
  refine AW.region ?_
  refine awJ (OpJ.frzP (op_box rfl rfl rfl sz24 rfl) (row := [.ro (l.map Op.av)]) (fun c hc => by rw [List.mem_singleton.1 hc]; rfl)) ?_; (simp only [nA, Nat.reduceBEq, Nat.reduceEqDiff, ↓reduceIte, Nat.reduceAdd, Nat.reduceSub])
  refine awP (op_assign rfl rfl) ?_
  refine AWL.nil ?_
  (refine hK _ ?_; clear hK K; (simp only [nA, Nat.reduceBEq, Nat.reduceEqDiff, ↓reduceIte, Nat.reduceAdd, Nat.reduceSub]))
  (refine AW.seq_k ?_; intro K hK)
  refine AW.region ?_
  refine awP (op_makeFunc rfl rfl rfl) ?_
  refine awP (op_assign rfl rfl) ?_
  refine AWL.nil ?_
  (refine hK _ ?_; clear hK K; (simp only [nA, ↓reduceIte]))
  skip
  refine AW.ret ?_; exact RQ.of0 rfl (.tmp (bl rfl) rfl rfl .nil)
def uptoL {α : Type} (f : Nat → α) (k : Nat) : List α := (List.range k).map f
theorem uptoL_succ {α : Type} (f : Nat → α) (k : Nat) : uptoL f (k + 1) = uptoL f k ++ [f k] := by simp [uptoL, List.range_succ]
theorem uptoL_length {α : Type} (f : Nat → α) (k : Nat) : (uptoL f k).length = k := by simp [uptoL]
def bkw (xs : List Op) (j : Nat) : Int × Op := ((xs.length : Int) - 1 - j, xs.getD (xs.length - 1 - j) default)
abbrev bkv (x : Int × Op) : Array Value := #[.int .i64 x.1, .agg x.2.vs.toArray]
/-- The elements lie in blocks that nobody turns. -/
def LiesAt (n₀ : Nat) (W : World) (A : Option Addr) (xs : List Op) : Prop := ∀ j, j < xs.length → ∃ b o, A = some ⟨b, o, none⟩ ∧ b < n₀ ∧ ∀ (q : Nat) (u : Value), (xs.getD j default).vs[q]? = some u → W.cell? ⟨b, o + (j * 10 + q), none⟩ = some u
theorem LiesAt.below {n₀ : Nat} {W W' : World} {A : Option Addr} {xs : List Op} (h : LiesAt n₀ W A xs) (hb : Below n₀ W W') : LiesAt n₀ W' A xs := fun j hj => by
  obtain ⟨b, o, e, h1, h2⟩ := h j hj
  exact ⟨b, o, e, h1, fun q u hu => (hb.cell (p := ⟨b, o + (j * 10 + q), none⟩) h1).trans (h2 q u hu)⟩
set_option maxHeartbeats 2000000 in
theorem C90in (F : Fence) (n : Nat) (h90 : F.fn 90) (hro : F.round = none) (hn : 1 ≤ n) (l Bs Bo n₀ c : Nat) (A : Option Addr) (xs : List Op) (hlen : xs.length ≤ 1000) (hBn : Bs < n₀) (J Jx : List (Int × Op) → World → Prop)
    (hY : ∀ pre x W, J pre W → pre.length < xs.length → YieldAt F (n - 1) Try.prog l (bkv x) W fun e W' =>
      (e = .returned (.bool true) ∧ J (pre ++ [x]) W' ∧ Below n₀ W W') ∨ (e = .returned (.bool false) ∧ Jx (pre ++ [x]) W'))
    (W : World) (hBs : W.cell? ⟨Bs, Bo, none⟩ = some (.slice A xs.length c)) (hL : LiesAt n₀ W A xs) (h0 : J [] W) :
    CallsIn F n Try.prog 90 #[.func (.yield l) #[] #[], .pointer (some ⟨Bs, Bo, none⟩)] W fun e W' => (∃ v, e = .returned v) ∧
      ((∃ ys, ys = uptoL (bkw xs) xs.length ∧ J ys W') ∨ (∃ pre, (∃ k, k ≤ xs.length ∧ pre = uptoL (bkw xs) k) ∧ Jx pre W')) := by
  refine callsIn_of_wp Try.func90 rfl h90 ?_ hro
  simp only [Try.ntmps90, List.size_toArray, List.length_cons, List.length_nil, Nat.reduceAdd, Nat.reduceSub, Array.replicate_succ, Array.replicate_zero, List.push_toArray, List.append_toArray, List.nil_append, List.cons_append]
  gi_wp2
  gi_loopw [3] (fun i wr => ∃ k : Nat, k ≤ xs.length ∧ i = .int .i64 ((xs.length : Int) - 1 - k) ∧ J (uptoL (bkw xs) k) wr ∧ Below n₀ W wr)
    (fun i _ => (intOf i + 1).toNat)
  case atStart => exact ⟨0, Nat.zero_le _, by simp, h0, Below.refl _ _⟩
  case round =>
    obtain ⟨k, hk, rfl, hJs, hnx⟩ := hrel
    have hB2 : wr.cell? ⟨Bs, Bo, none⟩ = some (.slice A xs.length c) := (hnx.cell (p := ⟨Bs, Bo, none⟩) hBn).trans hBs
    by_cases hlt : k < xs.length
    · obtain ⟨fn, tmps, assign, body, hy, hR⟩ := hY _ (bkw xs k) wr hJs (by rw [uptoL_length]; exact hlt)
      dsimp only [bkv, bkw] at hy
      obtain ⟨b, o, rfl, hb, hc⟩ := (hL.below hnx) (xs.length - 1 - k) (by omega)
      obtain ⟨op, hop⟩ : ∃ op, xs.getD (xs.length - 1 - k) default = op := ⟨_, rfl⟩
      rw [hop] at hy hc
      have c0 : wr.cell? ⟨b, o + (xs.length - 1 - k) * 10, none⟩ = some (.int .i64 op.time) := hc 0 _ rfl
      have c1 : wr.cell? ⟨b, o + (xs.length - 1 - k) * 10 + 1, none⟩ = some (.int .i64 op.device) := hc 1 _ rfl
      have c2 : wr.cell? ⟨b, o + (xs.length - 1 - k) * 10 + 2, none⟩ = some (.int .i64 op.seq) := hc 2 _ rfl
      have c3 : wr.cell? ⟨b, o + (xs.length - 1 - k) * 10 + 3, none⟩ = some (.int .i64 op.kind) := hc 3 _ rfl
      have c4 : wr.cell? ⟨b, o + (xs.length - 1 - k) * 10 + 4, none⟩ = some (.int .i64 op.cont) := hc 4 _ rfl
      have c5 : wr.cell? ⟨b, o + (xs.length - 1 - k) * 10 + 5, none⟩ = some (.int .i64 op.piece.plate.lead) := hc 5 _ rfl
      have c6 : wr.cell? ⟨b, o + (xs.length - 1 - k) * 10 + 6, none⟩ = some (.int .i64 op.piece.plate.airline) := hc 6 _ rfl
      have c7 : wr.cell? ⟨b, o + (xs.length - 1 - k) * 10 + 7, none⟩ = some (.int .i64 op.piece.plate.serial) := hc 7 _ rfl
      have c8 : wr.cell? ⟨b, o + (xs.length - 1 - k) * 10 + 8, none⟩ = some (.int .i64 op.piece.weight) := hc 8 _ rfl
      have c9 : wr.cell? ⟨b, o + (xs.length - 1 - k) * 10 + 9, none⟩ = some (.int .i64 op.piece.category) := hc 9 _ rfl
      clear hc hop
      gi_wp2
      refine hR.mono ?_
      rintro e W3 (⟨rfl, hJ3, hk3⟩ | ⟨rfl, hJx3⟩)
      · gi_wp2
        go_roundw
        case rel => exact ⟨k + 1, by omega, by simp; omega, by rw [uptoL_succ]; exact hJ3, hnx.trans hk3⟩
        case measure => simp [intOf]; omega
      gi_wp2
      refine bodyPost_ret (results_none rfl _ _ _) rfl ?_
      exact ⟨⟨_, rfl⟩, .inr ⟨_, ⟨k + 1, by omega, (uptoL_succ _ _).symm⟩, hJx3⟩⟩
    obtain rfl : k = xs.length := by omega
    gi_wp2
    go_end0
    exact ⟨⟨_, rfl⟩, .inl ⟨_, rfl, hJs⟩⟩
theorem C90s (F : Fence) (n : Nat) (h90 : F.fn 90) (hro : F.round = none) (hn : 1 ≤ n) (Bs Bo n₀ c : Nat) (A : Option Addr) (xs : List Op) (hlen : xs.length ≤ 1000) (hBn : Bs < n₀) (w : World) (hw : n₀ ≤ w.heap.size) (hBs : w.cell? ⟨Bs, Bo, none⟩ = some (.slice A xs.length c)) (hL : LiesAt n₀ w A xs) :
    SeqStopsK F n Try.prog 90 #[.pointer (some ⟨Bs, Bo, none⟩)] bkv (Below n₀) (fun ys => ys = uptoL (bkw xs) xs.length) (fun pre => ∃ k, k ≤ xs.length ∧ pre = uptoL (bkw xs) k) xs.length w := fun l J Jx W hW _ _ hY h0 =>
  C90in F n h90 hro hn l Bs Bo n₀ c A xs hlen hBn J Jx hY W ((hW.cell (p := ⟨Bs, Bo, none⟩) (Nat.lt_of_lt_of_le hBn hw)).trans hBs) (hL.below (hW.mono hw)) h0
theorem rev_bkw (xs : List Op) : xs.reverse = (List.range xs.length).map fun j => (bkw xs j).2 := by
  apply List.ext_getElem
  · simp
  intro i h1 h2
  simp only [List.length_reverse] at h1
  rw [List.getElem_reverse, List.getElem_map, List.getElem_range]
  unfold bkw
  rw [getD_of (by omega)]
theorem loaded_none {xs : List Op} {p : Plate} (h : ∀ j, j < xs.length → (bkw xs j).2.piece.plate ≠ p) : loadedB xs p = false := by
  unfold loadedB
  rw [rev_bkw, List.find?_eq_none.2]
  · rfl
  intro x hx
  obtain ⟨j, hj, rfl⟩ := List.mem_map.1 hx
  simp [h j (List.mem_range.1 hj)]
theorem loaded_at {xs : List Op} {p : Plate} {k : Nat} (hk : k < xs.length) (h : ∀ j, j < k → (bkw xs j).2.piece.plate ≠ p) (he : (bkw xs k).2.piece.plate = p) : loadedB xs p = decide ((bkw xs k).2.kind = 1) := by
  unfold loadedB
  rw [rev_bkw, List.find?_map, (List.find?_range_eq_some (i := k)).2]
  · rfl
  refine ⟨by simp [he], List.mem_range.2 hk, fun j hj => by simp [h j hj]⟩
theorem uptoL_snoc {α : Type} {f : Nat → α} {k : Nat} {pre : List α} {x : α} (h : pre ++ [x] = uptoL f k) : ∃ m, k = m + 1 ∧ pre = uptoL f m ∧ x = f m := by
  cases k with
  | zero => simp [uptoL] at h
  | succ m =>
    rw [uptoL_succ] at h
    have := List.append_inj' h rfl
    exact ⟨m, rfl, this.1, by simpa using this.2⟩
theorem uptoL_mem {α : Type} {f : Nat → α} {k j : Nat} (h : j < k) : f j ∈ uptoL f k := List.mem_map.2 ⟨j, List.mem_range.2 h, rfl⟩
end Go.Proofs.Ytdnofpggdddimaa
namespace Go.Proofs.Ytdnofpggdddimaa
open Go.RowKit
set_option linter.unusedSimpArgs false
set_option linter.unusedVariables false
set_option maxRecDepth 100000
open Go.Shelf
section
variable {C : Cx} {Q : Exit → Act → World → Prop} {σ : Sta}
def AWR (C : Cx) (c : Code) (Q : Exit → Act → World → Prop) (σ : Sta) : Prop := ∀ a w, St C σ a w → c.wp C.P Q a w
def RawE (C : Cx) (Q : Exit → Act → World → Prop) : Exit → Sta → Prop := fun e σ => ∀ a w, St C σ a w → Q e a w
theorem AWR.seq_k {x y : Code} (h : ∀ K : Sta → Prop, (∀ σ, AWR C y Q σ → K σ) → AW C x (thenE K (RawE C Q)) σ) : AWR C (.seq x y) Q σ := fun a w hs =>
  wp_seq (wp_mono (h _ (fun _ h => h) a w hs) fun e a w ⟨σ, h1, h2⟩ => by
    cases e with
    | normal => exact h2 a w h1
    | _ => exact h2 a w h1)
theorem AWR.assoc {x y : Code} (h : AWR C x (Exit.then (y.wp C.P Q) Q) σ) : AWR C (.seq x y) Q σ := fun a w hs => wp_seq (h a w hs)
theorem AWR.block {i : Nat} {c : Code} (h : AWR C c (Exit.inBlock i Q) σ) : AWR C (.block i c) Q σ := fun a w hs => wp_block (h a w hs)
theorem AWR.gh {c : Code} {σ' : Sta} (hg : Gh C σ σ') (h : AWR C c Q σ') : AWR C c Q σ := fun a w hs => h a w (hg a w hs)
end
theorem st_start {P : Program} {xs : List AV} {w : World} {S : Nat → Prop} {vals : List Value} {bss : List (List Nat)} {vs : List Value} {n : Nat} (came : Came P [] xs w S vals bss vs) (hn : xs.length ≤ n) :
    St ⟨P, S, [], [], w⟩ ⟨fun t => xs.getD t .any, ⟨[], 1⟩, n⟩ { tmps := vs.toArray ++ Array.replicate (n - vs.toArray.size) undef, defers := [] } w := by
  have hvl : vs.length = xs.length := came.args.1
  obtain rfl : vals = [] := List.eq_nil_of_length_eq_zero came.nv
  obtain rfl : bss = [] := List.eq_nil_of_length_eq_zero came.nb
  refine ⟨rfl, by simp; omega, S, [], [], ⟨Kept.refl _ _, fun _ h => h, fun _ h => .inl h, came.lt, rfl, rfl, fun r k x v bs q1 => by simp at q1, fun r bs q => by simp at q, fun r r' b1 b2 _ q => by simp at q, fun r bs q => by simp at q, fun r bs q => by simp at q, fun r x q => by simp at q, fun r k x q => by simp at q, Nat.one_pos⟩, fun t ht => ?_⟩
  by_cases hlt : t < xs.length
  · have hx := List.getElem?_eq_getElem hlt
    obtain ⟨u, hu, hr⟩ := came.args.at_ hx
    have e1 : (vs.toArray ++ Array.replicate (n - vs.toArray.size) undef).getD t undef = u := by
      have hu' : vs.toArray[t]? = some u := by simpa using hu
      rw [Array.getD_eq_getD_getElem?, Array.getElem?_append_left (by simp; omega), hu']
      rfl
    show TmpOK P S w ⟨[], 1⟩ [] ((vs.toArray ++ Array.replicate (n - vs.toArray.size) undef).getD t undef) (xs.getD t .any)
    rw [e1, List.getD_eq_getElem?_getD, hx]
    exact hr.tmp
  show TmpOK P S w ⟨[], 1⟩ [] ((vs.toArray ++ Array.replicate (n - vs.toArray.size) undef).getD t undef) (xs.getD t .any)
  rw [List.getD_eq_getElem?_getD, List.getElem?_eq_none (by omega)]
  trivial
/-- A call that hands back a scalar and leaves all as it lay. -/
theorem went_v {P : Program} {w w' : World} {S : Nat → Prop} {x : Value} (hk : Kept (fun _ => True) w w') (hx : x.oneCell' = true) : Went P w S [] [] w' [x] [.v x] [] [[]] [] := by
  refine ⟨hk.mono fun _ _ _ => trivial, rfl, rfl, rfl, rfl, fun i u y bs h1 h2 h3 => ?_, fun r x v bs h => by simp at h, ⟨fun r bs h => ?_, fun r r' b1 b2 hne h1 h2 => ?_⟩, fun b ⟨r, bs, h1, h2⟩ => ?_⟩
  · cases i with
    | zero => simp at h1 h2 h3; subst h1; subst h2; subst h3; exact .inl (.v hx)
    | succ i => simp at h1
  · cases r with
    | zero => simp at h; subst h; exact List.nodup_nil
    | succ r => simp at h
  · cases r with
    | zero => simp at h1; subst h1; exact fun b hb => by cases hb
    | succ r => simp at h1
  cases r with
  | zero => simp at h1; subst h1; cases h2
  | succ r => simp at h1
/-- What a box of one cell is. -/
theorem slot_box {C : Cx} {T : Sl} {S : Nat → Prop} {vals : List Value} {bss : List (List Nat)} {w : World} {u x : Value} {r k : Nat} {e : TypeId} (hm : Mem C T S vals bss w) (h0 : C.own0 = []) (hT : T.slots[r]? = some (k, .own e [[.v x]])) (hu : TmpOK C.P S w T vals u (.ptr r k 0 0)) :
    ∃ B, u = .pointer (some ⟨B, 0, none⟩) ∧ w.cell? ⟨B, 0, none⟩ = some x ∧ w.frozen? ⟨B, 0, none⟩ = false ∧ C.w0.heap.size ≤ B ∧ ¬ S B := by
  obtain ⟨v, bs, hv, hb, hrep⟩ := hm.slot hT
  obtain ⟨g, c, rfl, rfl⟩ := ptr_first hT hv hrep hu
  obtain ⟨us, sz, bss1, hbs, hi, hsz, hown, hul, hbl, hc⟩ := hrep.own_inv
  have hgb : g ∈ bs := by rw [hbs]; simp [slv, Value.ownBlock]
  rcases hown.2 with ⟨h, _⟩ | ⟨g', cap, cur, he, _, hg, h1, h2, h3, h4⟩
  · cases h
  injection he with e1 e2 e3
  injection e1 with e1
  injection e1 with e1
  subst e1
  have hus : us.length = 1 := by rw [hul]; rfl
  obtain ⟨y, rfl⟩ : ∃ y, us = [y] := by match us, hus with | [y], _ => exact ⟨y, rfl⟩
  have hy := hc 0 y (.v x) (bss1[0]'(by rw [hbl]; exact Nat.one_pos)) rfl rfl (List.getElem?_eq_getElem _)
  have hyx := hy.v_inv.1
  subst hyx
  have hcell := hown.cells (g := g) rfl 0 y rfl
  refine ⟨g, rfl, by simpa [Addr.add] using hcell, by simp [World.frozen?, hg], ?_, hm.apart r bs hb g hgb⟩
  rcases hm.mine r bs hb g hgb with h | h
  · rw [h0] at h; cases h
  exact h
end Go.Proofs.Ytdnofpggdddimaa
namespace Go.Proofs.Ytdnofpggdddimaa
open Go.RowKit
set_option linter.unusedSimpArgs false
set_option linter.unusedVariables false
set_option maxRecDepth 100000
open Go.Shelf
attribute [local go_sem] Oper.semAt_some
theorem pl75 : plIs Try.prog 75 [(0, 5), (5, 4)] := ⟨_, Try.underlying75, by kernel_rfl⟩
theorem pl33 : plIs Try.prog 33 [(0, 1), (1, 1), (2, 1), (3, 1), (4, 1), (5, 5)] := ⟨_, Try.underlying33, by kernel_rfl⟩
theorem pl26 : plIs Try.prog 26 [(0, 1), (1, 1), (2, 1), (3, 1), (4, 1), (5, 1), (6, 1)] := ⟨_, Try.underlying26, by kernel_rfl⟩
def loadErr (h : Hand) (p : Piece) (n : Int) : Int :=
  if idxI (fun c : Container => decide (c.number = n)) h.conts < 0 then 6
  else if grantedB h.grants p (h.conts.getD (idxI (fun c : Container => decide (c.number = n)) h.conts).toNat default).flight = false then 10
  else if loadedB h.log p.plate then 5 else 0
theorem idx_lt {α : Type} {p : α → Bool} {l : List α} (h : ¬ idxI p l < 0) : (idxI p l).toNat < l.length ∧ ((idxI p l).toNat : Int) = idxI p l := by
  unfold idxI at h ⊢
  by_cases hl : l.findIdx p < l.length
  · rw [if_pos hl] at h ⊢
    exact ⟨by omega, by omega⟩
  rw [if_neg hl] at h; omega
/-- Between two rounds; where a round has left. -/
def ldI (B : Nat) (wl : World) (p : Plate) (pre : List (Int × Op)) (W : World) : Prop := Kept (fun k => k ≠ B) wl W ∧ W.cell? ⟨B, 0, none⟩ = some (.int .i64 0) ∧ W.frozen? ⟨B, 0, none⟩ = false ∧ ∀ x ∈ pre, x.2.piece.plate ≠ p
def ldX (B : Nat) (wl : World) (p : Plate) (c : Code) (pre : List (Int × Op)) (W : World) : Prop := Kept (fun k => k ≠ B) wl W ∧ W.frozen? ⟨B, 0, none⟩ = false ∧ ∃ pre0 x, pre = pre0 ++ [x] ∧ (∀ y ∈ pre0, y.2.piece.plate ≠ p) ∧ x.2.piece.plate = p ∧ ((c = .ret ∧ x.2.kind = 1 ∧ W.cell? ⟨B, 0, none⟩ = some (.int .i64 5)) ∨ (c = .exit 0 ∧ x.2.kind ≠ 1 ∧ W.cell? ⟨B, 0, none⟩ = some (.int .i64 0)))
theorem list42 {α : Type} (l : List α) (h : l.length = 42) : ∃ z0 z1 z2 z3 z4 z5 z6 z7 z8 z9 z10 z11 z12 z13 z14 z15 z16 z17 z18 z19 z20 z21 z22 z23 z24 z25 z26 z27 z28 z29 z30 z31 z32 z33 z34 z35 z36 z37 z38 z39 z40 z41 : α, l = [z0, z1, z2, z3, z4, z5, z6, z7, z8, z9, z10, z11, z12, z13, z14, z15, z16, z17, z18, z19, z20, z21, z22, z23, z24, z25, z26, z27, z28, z29, z30, z31, z32, z33, z34, z35, z36, z37, z38, z39, z40, z41] := by
  match l, h with
  | z0 :: z1 :: z2 :: z3 :: z4 :: z5 :: z6 :: z7 :: z8 :: z9 :: z10 :: z11 :: z12 :: z13 :: z14 :: z15 :: z16 :: z17 :: z18 :: z19 :: z20 :: z21 :: z22 :: z23 :: z24 :: z25 :: z26 :: z27 :: z28 :: z29 :: z30 :: z31 :: z32 :: z33 :: z34 :: z35 :: z36 :: z37 :: z38 :: z39 :: z40 :: z41 :: [], _ => exact ⟨z0, z1, z2, z3, z4, z5, z6, z7, z8, z9, z10, z11, z12, z13, z14, z15, z16, z17, z18, z19, z20, z21, z22, z23, z24, z25, z26, z27, z28, z29, z30, z31, z32, z33, z34, z35, z36, z37, z38, z39, z40, z41, rfl⟩
/-- The cells of a list of operations. -/
theorem ro_lies {P : Program} {S : Nat → Prop} {w : World} {A : Option Addr} {xs : List Op} {us : List Value} (hS : ∀ k, S k → k < w.heap.size) (hr : Rd S w A us) (hl : us.length = (xs.map Op.av).flatten.length) (hc : ∀ (i : Nat) (u : Value) (x : AV), us[i]? = some u → (xs.map Op.av).flatten[i]? = some x → Rep P S w [] u x) : LiesAt w.heap.size w A xs := fun j hj => by
  have hrow : (xs.map Op.av)[j]? = some (xs.getD j default).av := get_mapD hj
  have key : ∀ (q : Nat) (u : Value), (xs.getD j default).vs[q]? = some u → us[j * 10 + q]? = some u := fun q u hu => by
    have hx : (xs.getD j default).av[q]? = some (.v u) := by
      have e : (xs.getD j default).av = (xs.getD j default).vs.map AV.v := rfl
      rw [e, List.getElem?_map, hu]; rfl
    have hf := flat_at (opv_len xs) hrow hx
    have hlt : j * 10 + q < us.length := by rw [hl]; exact (List.getElem?_eq_some_iff.1 hf).1
    have := hc _ _ _ (List.getElem?_eq_getElem hlt) hf
    rw [List.getElem?_eq_getElem hlt, this.v_inv.1]
  have h0 := key 0 _ rfl
  obtain ⟨g, o, e, hSg, hcell⟩ := hr (by have := (List.getElem?_eq_some_iff.1 h0).1; omega)
  exact ⟨g, o, e, hS g hSg, fun q u hu => hcell _ _ (key q u hu)⟩
theorem load_fin {v : Int} {w W1 : World} {S : Nat → Prop} {B D : Nat} {tm : Array Value} (ht : tm.getD 6 undef = .pointer (some ⟨B, 0, none⟩)) (hk : Kept (fun _ => True) w W1) (hD : w.heap.size ≤ D) (hK : W1.heap[D]? = some (.deferred (some []))) (hc : W1.cell? ⟨B, 0, none⟩ = some (.int .i64 v)) :
    (results Try.f59 tm).run Try.prog (W1.putObj D (.deferred none)) = .ok (.int .i64 v) (W1.putObj D (.deferred none)) ∧ Went Try.prog w S [] [] (W1.putObj D (.deferred none)) [.int .i64 v] [.v (.int .i64 v)] [] [[]] [] := by
  have hcell : (W1.putObj D (.deferred none)).cell? ⟨B, 0, none⟩ = some (.int .i64 v) := cell_kept hc (grownBy_putObj' W1 D _) (fun r e => by cases e; exact ⟨_, hK, rfl⟩)
  have hl := run_loadOne (P := Try.prog) ag39 ⟨B, 0, none⟩ _ _ hcell
  refine ⟨retV_run (us := [.int .i64 v]) ?_, went_v (hk.grown (grownBy_putObj' W1 D _) fun k e => by cases e; exact .inr hD) rfl⟩
  show ([ResultVar.cell 6 39].mapM (resOf tm)).run Try.prog _ = _
  exact mapM_run (by simp only [resOf, Sem.run_bind, ht, asAddr, Sem.run_pure, Result.andThen_ok, hl]) (by simp)
theorem C59 {h : Hand} {p : Piece} {n : Int} (hs : h.Sm) : Fn Try.prog 59 [] [.agg h.av, .agg p.av, .v (.int .i64 n)] [.v (.int .i64 (loadErr h p n))] [] := by
  intro w S vals bss vs came
  have hst := st_start (n := 42) came (by simp)
  obtain rfl : vals = [] := List.eq_nil_of_length_eq_zero came.nv
  obtain rfl : bss = [] := List.eq_nil_of_length_eq_zero came.nb
  refine callsIn_wide.1 (callsIn_of_wp_marks (F := Fence.wide) (n := 5) Try.func59 rfl trivial (wpIn_wide.2 ?_) rfl)
  rw [Try.ntmps59]
  refine (?_ : AWR ⟨Try.prog, S, [], [], w⟩ _ _ _) _ _ hst
  clear hst
  have hraw : ∀ (x : Value) (σ : Sta), x = .int .i64 (loadErr h p n) → RL (ResIs Try.prog σ) Try.f59.results.toList [.v x] → RawE ⟨Try.prog, S, [], [], w⟩ (bodyPostM Fence.wide 5 Try.prog Try.f59 fun e w' => ∃ us ys outs bsr bss', e = .returned (retV us) ∧ Went Try.prog w S [] [] w' us ys outs bsr bss' ∧ ys = [.v (.int .i64 (loadErr h p n))] ∧ outs = []) .ret σ := by
    intro x σ hx hres a w' hst
    subst hx
    obtain ⟨hd, hn, S', vals', bss', hm, he⟩ := hst
    obtain ⟨us, h1, h2⟩ := res_run (C := ⟨Try.prog, S, [], [], w⟩) ⟨hd, hn, hm, he⟩ _ _ hres
    obtain ⟨u, us', rfl, hu, h'⟩ := h2.cons_inv
    obtain rfl : us' = [] := List.eq_nil_of_length_eq_zero h'.1
    have hux := (show TmpOK Try.prog S' w' σ.T vals' u (.v (.int .i64 (loadErr h p n))) from hu).v
    subst hux
    show LeavesInM _ _ _ _ _ _ a.defers .returning w'
    rw [hd]
    exact ⟨_, retV_run h1, [_], _, _, _, _, rfl, went_v (hm.kept.mono fun _ _ _ => List.not_mem_nil) rfl, rfl, rfl⟩
  (refine AWR.seq_k ?_; intro K hK)
  refine AW.region ?_
  refine awJ (op_box rfl rfl rfl sz26 rfl) ?_; (simp only [nA, Nat.reduceBEq, Nat.reduceEqDiff, ↓reduceIte])
  refine awJ (op_box rfl rfl rfl sz31 rfl) ?_; (simp only [nA, Nat.reduceBEq, Nat.reduceEqDiff, ↓reduceIte])
  refine awJ (OpJ.frzP (op_box rfl rfl rfl sz3 rfl) (row := [.v (.int .i64 n)]) (fun c hc => by rw [List.mem_singleton.1 hc]; rfl)) ?_; (simp only [nA, Nat.reduceBEq, Nat.reduceEqDiff, ↓reduceIte, Nat.reduceAdd, Nat.reduceSub])
  refine awJ (op_alloc rfl ze39 rfl) ?_; (simp only [nA, Nat.reduceBEq, Nat.reduceEqDiff, ↓reduceIte])
  refine AWL.nil ?_
  (refine hK _ ?_; clear hK K; (simp only [nA, Nat.reduceBEq, Nat.reduceEqDiff, ↓reduceIte, Nat.reduceAdd, Nat.reduceSub]))
  (refine AWR.seq_k ?_; intro K hK)
  refine AW.region ?_
  (refine awP (op_fa_ptr rfl rfl rfl fl26_5 (by exact sz23) (by decide) rfl) ?_)
  (refine awR (op_load_ptr1 rfl rfl rfl rfl ag23 rfl rfl) ?_)
  refine awP (op_makeFunc rfl rfl rfl) ?_
  refine awJ (OpQ.j (op_callQ (b := true) rfl en74 (C74 (l := h.conts) (n := n) hs.c) (RL.cons (by exact View.same rfl) (RL.cons (by exact View.same rfl) (RL.nil))) rfl)) ?_; (simp only [nA, ↓reduceIte])
  refine awP (op_assign rfl rfl) ?_
  refine AWL.nil ?_
  (refine hK _ ?_; clear hK K; (simp only [nA]))
  (refine AWR.seq_k ?_; intro K hK)
  (refine AW.seq_k ?_; intro K hK)
  refine AW.region ?_
  refine awP (op_move rfl rfl) ?_
  refine awP (op_lss rfl rfl rfl) ?_
  refine AWL.nil ?_
  (refine hK _ ?_; clear hK K; (simp only [nA]))
  refine AW.cond rfl rfl rfl (fun hc => ?_) (fun hc => ?_)
  ·
   have hc1 := hc; have hi := (show idxI (fun c : Container => decide (c.number = n)) h.conts < 0 by simpa using hc1)
   (refine AW.seq_k ?_; intro K hK)
   refine AW.region ?_
   refine awJ (op_store rfl rfl rfl rfl rfl rfl sz39 rfl (bl rfl) rfl) ?_; (simp only [nA, Nat.reduceBEq, Nat.reduceEqDiff, ↓reduceIte, Nat.reduceAdd, Nat.reduceSub])
   refine AWL.nil ?_
   (refine hK _ ?_; clear hK K; (skip))
   skip
   refine AW.ret ?_; (simp only [thenE, inBlk, Nat.reduceEqDiff, ↓reduceIte]); exact hraw (.int .i64 6) _ (by unfold loadErr; rw [if_pos hi]) (RL.cons ⟨(bl rfl), 2, 3, 0, 0, 39, _, _, rfl, rfl, rfl, .inr ⟨ag39, _, rfl, rfl⟩⟩ RL.nil)
  have hc1 := hc; have hi := (show ¬ idxI (fun c : Container => decide (c.number = n)) h.conts < 0 by simpa using hc1); obtain ⟨hil, hie⟩ := idx_lt hi
  refine AW.skip ?_
  (refine hK _ ?_; clear hK K; (skip))
  (refine AWR.seq_k ?_; intro K hK)
  (refine AW.seq_k ?_; intro K hK)
  refine AW.quiet mix (by kernel_rfl) ?_
  (refine aqP (op_fa_ptr rfl rfl rfl fl26_4 (by exact sz22) (by decide) rfl) ?_)
  (refine aqR (op_load_ptr1 rfl rfl rfl rfl ag22 rfl rfl) ?_)
  (refine aqR (op_load_ptr rfl rfl rfl rfl ag31 sz31 (bl rfl) rfl) ?_)
  (refine aqP (op_fa_ptr rfl rfl rfl fl26_5 (by exact sz23) (by decide) rfl) ?_)
  (refine aqR (op_load_ptr1 rfl rfl rfl rfl ag23 rfl rfl) ?_)
  refine aqP (op_move rfl rfl) ?_
  (refine aqP (op_ia_ro (idxI (fun c : Container => decide (c.number = n)) h.conts).toNat rfl (.inl rfl) rfl Try.underlying23 (by omega) (get_mapD (by omega)) (by exact sz77) (bl rfl)) ?_)
  (refine aqP (op_fa_rop rfl rfl fl77_1 (by exact sz73) (by decide) (bl rfl) rfl) ?_)
  (refine aqR (op_load_rop rfl rfl ag73 sz73 (bl rfl) (by decide) rfl) ?_)
  refine aqP (op_build2 (xs := [_, _, _, _, _, _, _, _, _]) rfl pl75 ze75 [(0, [_, _, _, _, _]), (1, [_, _, _, _])] rfl rfl rfl) ?_
  refine aqQ (op_callQ (b := true) rfl en76 (C76 (l := h.grants) (g := ⟨p, (h.conts.getD (idxI (fun c : Container => decide (c.number = n)) h.conts).toNat default).flight⟩) hs.g) (RL.cons (by exact View.same rfl) (RL.cons (by exact View.same rfl) (RL.nil))) rfl) ?_; (simp only [nA, ↓reduceIte])
  refine aqP (op_not rfl rfl rfl) ?_
  refine AQ.nil ?_
  (refine hK _ ?_; clear hK K; (simp only [nA, Nat.reduceBEq, Nat.reduceEqDiff, ↓reduceIte, Nat.reduceAdd, Nat.reduceSub]))
  refine AW.cond rfl rfl rfl (fun hc => ?_) (fun hc => ?_)
  ·
   have hc2 := hc; have hg := hc2
   (refine AW.seq_k ?_; intro K hK)
   refine AW.region ?_
   refine awJ (op_store rfl rfl rfl rfl rfl rfl sz39 rfl (bl rfl) rfl) ?_; (simp only [nA, Nat.reduceBEq, Nat.reduceEqDiff, ↓reduceIte, Nat.reduceAdd, Nat.reduceSub])
   refine AWL.nil ?_
   (refine hK _ ?_; clear hK K; (skip))
   skip
   refine AW.ret ?_; (simp only [thenE, inBlk, Nat.reduceEqDiff, ↓reduceIte]); exact hraw (.int .i64 10) _ (by unfold loadErr; rw [if_neg hi, if_pos (by simpa [grantedB] using hg)]) (RL.cons ⟨(bl rfl), 2, 3, 0, 0, 39, _, _, rfl, rfl, rfl, .inr ⟨ag39, _, rfl, rfl⟩⟩ RL.nil)
  have hc2 := hc; have hg := hc2
  refine AW.skip ?_
  (refine hK _ ?_; clear hK K; (skip))
  refine AWR.assoc ?_
  (refine AWR.seq_k ?_; intro K hK)
  refine AW.region ?_
  (refine awP (op_fa_ptr rfl rfl rfl fl26_6 (by exact sz24) (by decide) rfl) ?_)
  (refine awR (op_load_ptr1 rfl rfl rfl rfl ag24 rfl rfl) ?_)
  refine awJ (op_callS rfl en77 (C77 (l := h.log)) (RL.cons (by exact View.same rfl) (RL.nil)) rfl rfl rfl) ?_; (simp only [nA, Nat.reduceBEq, Nat.reduceEqDiff, ↓reduceIte, Nat.reduceAdd, Nat.reduceSub])
  refine AWL.nil ?_
  (refine hK _ ?_; clear hK K; (simp only [nA, Nat.reduceBEq, Nat.reduceEqDiff, ↓reduceIte, Nat.reduceAdd, Nat.reduceSub]))
  refine AWR.gh (Gh.freezeP (r := 1) 4 (bl rfl) rfl rfl (fun c hc => by simp only [List.mem_cons, List.not_mem_nil, or_false] at hc; rcases hc with rfl | rfl | rfl | rfl | rfl <;> rfl)) ?_; (simp only [nA, Nat.reduceBEq, Nat.reduceEqDiff, ↓reduceIte, Nat.reduceAdd, Nat.reduceSub])
  refine AWR.block ?_
  rintro ⟨tmps, df⟩ wl ⟨hd, hn, S', vals', bss', hm, he⟩
  obtain rfl : df = [] := hd
  obtain ⟨tl⟩ := tmps
  obtain ⟨z0, z1, z2, z3, z4, z5, z6, z7, z8, z9, z10, z11, z12, z13, z14, z15, z16, z17, z18, z19, z20, z21, z22, z23, z24, z25, z26, z27, z28, z29, z30, z31, z32, z33, z34, z35, z36, z37, z38, z39, z40, z41, rfl⟩ := list42 tl hn
  have e30 : Rep Try.prog S' wl [] z30 (.clo 90 [.rop [.ro (h.log.map Op.av)]]) := he 30 (bl rfl)
  have e4 : Rep Try.prog S' wl [] z4 (.rop p.av) := he 4 (bl rfl)
  have e6 := he 6 (bl rfl)
  obtain ⟨B, hB, hB1, hB2, hB3, hB4⟩ := slot_box (x := .int .i64 0) (r := 2) (k := 3) (e := 39) hm rfl rfl e6
  obtain rfl : z6 = _ := hB
  obtain ⟨cu, rfl, hcl, hcr⟩ := e30.clo_inv
  obtain ⟨c1, rfl⟩ : ∃ c1, cu = [c1] := by match cu, hcl with | [c1], _ => exact ⟨c1, rfl⟩
  obtain ⟨-, A1, us1, rfl, hrd1, hl1, hr1⟩ := (hcr 0 c1 _ rfl rfl).rop_inv
  obtain ⟨s1, rfl⟩ : ∃ s1, us1 = [s1] := by match us1, hl1 with | [s1], _ => exact ⟨s1, rfl⟩
  obtain ⟨g1, o1, eA, hS1, hcell1⟩ := hrd1 Nat.one_pos
  obtain rfl : A1 = _ := Option.some.inj eA
  have hc1' := hcell1 0 s1 rfl
  obtain ⟨-, A2, c2, sz2, us2, rfl, -, -, -, hrd2, hl2, hr2⟩ := (hr1 0 s1 _ rfl rfl).ro_inv
  have hlies := ro_lies hm.lt hrd2 hl2 hr2
  obtain ⟨-, A4, us4, rfl, hrd4, hl4, hr4⟩ := e4.rop_inv
  obtain ⟨g4, o4, eA4, hS4, hcell4⟩ := hrd4 (by rw [hl4]; exact Nat.succ_pos _)
  obtain rfl : A4 = _ := Option.some.inj eA4
  obtain ⟨y0, y1, y2, y3, y4, rfl⟩ : ∃ y0 y1 y2 y3 y4, us4 = [y0, y1, y2, y3, y4] := by match us4, hl4 with | [y0, y1, y2, y3, y4], _ => exact ⟨y0, y1, y2, y3, y4, rfl⟩
  obtain rfl : y0 = _ := (hr4 0 y0 _ rfl rfl).v_inv.1
  obtain rfl : y1 = _ := (hr4 1 y1 _ rfl rfl).v_inv.1
  obtain rfl : y2 = _ := (hr4 2 y2 _ rfl rfl).v_inv.1
  have p0 : wl.cell? ⟨g4, o4, none⟩ = some (.int .i64 p.plate.lead) := hcell4 0 _ rfl
  have p1 : wl.cell? ⟨g4, o4 + 1, none⟩ = some (.int .i64 p.plate.airline) := hcell4 1 _ rfl
  have p2 : wl.cell? ⟨g4, o4 + 2, none⟩ = some (.int .i64 p.plate.serial) := hcell4 2 _ rfl
  have hg4 : g4 < wl.heap.size := hm.lt _ hS4
  have hg4B : g4 ≠ B := fun e => hB4 (e ▸ hS4)
  have hg1 : g1 < wl.heap.size := hm.lt _ hS1
  have hkw : Kept (fun _ => True) w wl := hm.kept.mono fun _ _ _ => List.not_mem_nil
  have hBl : B < wl.heap.size := World.block_lt_of_cell? wl _ hB1
  rw [List.length_map] at hc1'
  have hll : h.log.length ≤ 1000 := hs.l
  have hle : ∀ x : Int, loadedB h.log p.plate = decide (x = 1) → loadErr h p n = if x = 1 then 5 else 0 := fun x hx => by
    unfold loadErr
    rw [if_neg hi, if_neg (by simpa [grantedB] using hg), hx]
    by_cases h1 : x = 1 <;> simp [h1]
  clear hn; clear hm he e6 e4 e30 hcr hr1 hr2 hr4 hl4 hcell4 hcell1 hrd1 hrd2 hrd4 hraw hl2 hl1 hcl hg hc2 hc1 hc hil hie hi
  refine (wpIn_wide (n := 5)).1 ?_
  refine wpIn_rangeFunc_ownH (F := Fence.wide) (n := 5) (α := Int × Op) rfl (by decide) (gf := 90) (lb := #[.pointer (some ⟨g1, o1, none⟩)]) rfl trivial en90 (C90s Fence.wide 4 trivial rfl (by decide) g1 o1 wl.heap.size c2 A2 h.log hll hg1 wl (Nat.le_refl _) hc1' hlies) belowK_t (belowK_b (Nat.le_refl _)) (Below.refl _ _) (fun _ => rfl)
    (ldI B wl p.plate)
    (ldX B wl p.plate)
    ?hI ?hIx ⟨Kept.refl _ _, hB1, hB2, fun x hx => by cases hx⟩
    (fun x a' W => ∃ Bx, wl.heap.size ≤ Bx ∧ W.heap[Bx]? = some (.cells x.2.vs.toArray 33 (0, 0)) ∧ a' = { tmps := #[z0, z1, z2, z3, .pointer (some ⟨g4, o4, none⟩), z5, .pointer (some ⟨B, 0, none⟩), z7, z8, .pointer (some ⟨Bx, 0, none⟩), z10, z11, z12, z13, z14, z15, z16, z17, z18, z19, z20, z21, z22, z23, z24, z25, z26, z27, z28, z29, .func (.func 90) #[] #[.pointer (some ⟨g1, o1, none⟩)], .int .i64 x.1, .agg x.2.vs.toArray, z33, z34, z35, z36, z37, z38, z39, z40, z41], defers := [] })
    ?hAx ?assign ?body ?done ?stop
  case hI =>
    rintro s W W' row ⟨h1, h2, h3, h4⟩ hgr hr
    exact ⟨h1.grown hgr fun k e => .inr (hr k e).1, cell_kept h2 hgr fun k e => (hr k e).2, (frozen_kept h2 hgr fun k e => (hr k e).2).trans h3, h4⟩
  case hIx =>
    rintro c s W W' row ⟨h1, h3, pre0, x, e1, e2, e3, h4⟩ hgr hr
    have key : ∀ v, W.cell? ⟨B, 0, none⟩ = some v → W'.cell? ⟨B, 0, none⟩ = some v ∧ W'.frozen? ⟨B, 0, none⟩ = false := fun v hv => ⟨cell_kept hv hgr fun k e => (hr k e).2, (frozen_kept hv hgr fun k e => (hr k e).2).trans h3⟩
    refine ⟨h1.grown hgr fun k e => .inr (hr k e).1, ?_, pre0, x, e1, e2, e3, ?_⟩
    · rcases h4 with ⟨_, _, h4⟩ | ⟨_, _, h4⟩ <;> exact (key _ h4).2
    rcases h4 with ⟨q1, q2, h4⟩ | ⟨q1, q2, h4⟩
    · exact .inl ⟨q1, q2, (key _ h4).1⟩
    exact .inr ⟨q1, q2, (key _ h4).1⟩
  case hAx =>
    rintro x a' s W W' row ⟨Bx, h1, h2, h3⟩ hgr hr
    exact ⟨Bx, h1, (grownBy_keeps_cells hgr (fun k e => (hr k e).2) h2 rfl).trans h2, h3⟩
  case assign =>
    rintro l pre x W K hI hK
    obtain ⟨k1, k2, k3, k4⟩ := hI
    gi_wp2
    exact hK _ _ ((KeepsOthers.alloc _ _).from _) ((Below.refl _ W).alloc k1.size _) ⟨k1.alloc _, cell_kept k2 (World.grownBy_alloc W _ none) (fun r e => by cases e), (frozen_kept k2 (World.grownBy_alloc W _ none) (fun r e => by cases e)).trans k3, k4⟩ ⟨W.heap.size, k1.size, World.alloc_heap_new W _, rfl⟩
  case body =>
    rintro l pre x a' W hl ⟨r, hr⟩ ⟨k1, k2, k3, k4⟩ ⟨Bx, hBx, bX, rfl⟩ hlt
    have q0 := k1.cell (p := ⟨g4, o4, none⟩) p0 hg4B
    have q1 := k1.cell (p := ⟨g4, o4 + 1, none⟩) p1 hg4B
    have q2 := k1.cell (p := ⟨g4, o4 + 2, none⟩) p2 hg4B
    have b3 : W.cell? ⟨Bx, 3, none⟩ = some (.int .i64 x.2.kind) := by simp [World.cell?, bX]
    have b5 : W.cell? ⟨Bx, 5, none⟩ = some (.int .i64 x.2.piece.plate.lead) := by simp [World.cell?, bX]
    have b6 : W.cell? ⟨Bx, 6, none⟩ = some (.int .i64 x.2.piece.plate.airline) := by simp [World.cell?, bX]
    have b7 : W.cell? ⟨Bx, 7, none⟩ = some (.int .i64 x.2.piece.plate.serial) := by simp [World.cell?, bX]
    clear hr bX hlies p0 p1 p2 hc1'
    have hpl : x.2.piece.plate = p.plate ↔ x.2.piece.plate.lead = p.plate.lead ∧ x.2.piece.plate.airline = p.plate.airline ∧ x.2.piece.plate.serial = p.plate.serial := by
      rcases x.2.piece.plate with ⟨a1, a2, a3⟩
      rcases p.plate with ⟨d1, d2, d3⟩
      simp
    by_cases e1 : x.2.piece.plate.lead = p.plate.lead
    · by_cases e2 : x.2.piece.plate.airline = p.plate.airline
      · by_cases e3 : x.2.piece.plate.serial = p.plate.serial
        · by_cases hk : x.2.kind = 1
          · gi_wp2
            exact ⟨(KeepsOthers.setCell _ _ _).from _, k1.setCell (.inl fun h => h rfl) _, by rw [World.frozen?_setCell]; exact k3, pre, x, rfl, k4, hpl.2 ⟨e1, e2, e3⟩, .inl ⟨rfl, hk, World.cell?_setCell_same' _ _ _ (by rw [k2]; rfl)⟩⟩
          gi_wp2
          exact ⟨KeepsFrom.refl _ _, k1, k3, pre, x, rfl, k4, hpl.2 ⟨e1, e2, e3⟩, .inr ⟨rfl, hk, k2⟩⟩
        have hgo : ldI B wl p.plate (pre ++ [x]) W := ⟨k1, k2, k3, fun y hy => by
          rcases List.mem_append.1 hy with hy | hy
          · exact k4 y hy
          rw [List.mem_singleton.1 hy]; exact fun h => e3 (hpl.1 h).2.2⟩
        gi_wp2
        exact ⟨KeepsFrom.refl _ _, Below.refl _ _, hgo⟩
      have hgo : ldI B wl p.plate (pre ++ [x]) W := ⟨k1, k2, k3, fun y hy => by
        rcases List.mem_append.1 hy with hy | hy
        · exact k4 y hy
        rw [List.mem_singleton.1 hy]; exact fun h => e2 (hpl.1 h).2.1⟩
      gi_wp2
      exact ⟨KeepsFrom.refl _ _, Below.refl _ _, hgo⟩
    have hgo : ldI B wl p.plate (pre ++ [x]) W := ⟨k1, k2, k3, fun y hy => by
      rcases List.mem_append.1 hy with hy | hy
      · exact k4 y hy
      rw [List.mem_singleton.1 hy]; exact fun h => e1 (hpl.1 h).1⟩
    gi_wp2
    exact ⟨KeepsFrom.refl _ _, Below.refl _ _, hgo⟩
  case done =>
    rintro D ys W hD rfl ⟨k1, k2, k3, k4⟩ hK
    have hv : loadErr h p n = 0 := (hle 0 (by rw [loaded_none fun j hj => k4 _ (uptoL_mem hj)]; rfl)).trans rfl
    refine (?_ : Code.wp _ _ _ _ _)
    refine (wpIn_wide (n := 5)).1 ?_
    have hK2 := (KeepsOthers.setCell W ⟨B, 0, none⟩ (.int .i64 0)).same D _ hK rfl
    have hc2 : (W.setCell ⟨B, 0, none⟩ (.int .i64 0)).cell? ⟨B, 0, none⟩ = some (.int .i64 0) := World.cell?_setCell_same' _ _ _ (by rw [k2]; rfl)
    gi_wp2
    obtain ⟨r1, r2⟩ := load_fin (S := S) (B := B) (tm := #[z0, z1, z2, z3, .pointer (some ⟨g4, o4, none⟩), z5, .pointer (some ⟨B, 0, none⟩), z7, z8, z9, z10, z11, z12, z13, z14, z15, z16, z17, z18, z19, z20, z21, z22, z23, z24, z25, z26, z27, z28, z29, .func (.func 90) #[] #[.pointer (some ⟨g1, o1, none⟩)], z31, z32, z33, z34, z35, z36, z37, z38, z39, z40, z41]) rfl ((Kept.then hkw k1 fun i hi _ => by have : w.heap.size ≤ B := hB3; show i ≠ B; omega).setCell (p := ⟨B, 0, none⟩) (.inr hB3) (.int .i64 0)) (by have := hkw.size; omega) hK2 hc2
    exact ⟨by simp, .inl ⟨_, _, rfl, run_takeDeferred hK2, _, r1, [_], rfl, _, _, r2⟩⟩
  case stop =>
    rintro D c pre W hD ⟨k, hk, hpre⟩ ⟨k1, k3, pre0, x, e1, e2, e3, h4⟩ hK
    rw [e1] at hpre
    obtain ⟨m, rfl, rfl, rfl⟩ := uptoL_snoc hpre
    have hla := loaded_at (xs := h.log) (p := p.plate) (k := m) (by omega) (fun j hj => e2 _ (uptoL_mem hj)) e3
    rcases h4 with ⟨rfl, q2, q3⟩ | ⟨rfl, q2, q3⟩
    · have hv : loadErr h p n = 5 := (hle (bkw h.log m).2.kind hla).trans (if_pos q2)
      gi_wp2
      obtain ⟨r1, r2⟩ := load_fin (S := S) (B := B) (tm := #[z0, z1, z2, z3, .pointer (some ⟨g4, o4, none⟩), z5, .pointer (some ⟨B, 0, none⟩), z7, z8, z9, z10, z11, z12, z13, z14, z15, z16, z17, z18, z19, z20, z21, z22, z23, z24, z25, z26, z27, z28, z29, .func (.func 90) #[] #[.pointer (some ⟨g1, o1, none⟩)], z31, z32, z33, z34, z35, z36, z37, z38, z39, z40, z41]) rfl (Kept.then hkw k1 fun i hi _ => by have : w.heap.size ≤ B := hB3; show i ≠ B; omega) (by have := hkw.size; omega) hK q3
      exact ⟨by simp, .inl ⟨_, _, rfl, run_takeDeferred hK, _, r1, [_], rfl, _, _, r2⟩⟩
    have hv : loadErr h p n = 0 := (hle (bkw h.log m).2.kind hla).trans (if_neg q2)
    have hK2 := (KeepsOthers.setCell W ⟨B, 0, none⟩ (.int .i64 0)).same D _ hK rfl
    have hc2 : (W.setCell ⟨B, 0, none⟩ (.int .i64 0)).cell? ⟨B, 0, none⟩ = some (.int .i64 0) := World.cell?_setCell_same' _ _ _ (by rw [q3]; rfl)
    gi_wp2
    refine (wpIn_wide (n := 5)).1 ?_
    gi_wp2
    obtain ⟨r1, r2⟩ := load_fin (S := S) (B := B) (tm := #[z0, z1, z2, z3, .pointer (some ⟨g4, o4, none⟩), z5, .pointer (some ⟨B, 0, none⟩), z7, z8, z9, z10, z11, z12, z13, z14, z15, z16, z17, z18, z19, z20, z21, z22, z23, z24, z25, z26, z27, z28, z29, .func (.func 90) #[] #[.pointer (some ⟨g1, o1, none⟩)], z31, z32, z33, z34, z35, z36, z37, z38, z39, z40, z41]) rfl ((Kept.then hkw k1 fun i hi _ => by have : w.heap.size ≤ B := hB3; show i ≠ B; omega).setCell (p := ⟨B, 0, none⟩) (.inr hB3) (.int .i64 0)) (by have := hkw.size; omega) hK2 hc2
    exact ⟨by simp, .inl ⟨_, _, rfl, run_takeDeferred hK2, _, r1, [_], rfl, _, _, r2⟩⟩
end Go.Proofs.Ytdnofpggdddimaa
namespace Go.Proofs.Ytdnofpggdddimaa
open Go.RowKit
set_option linter.unusedSimpArgs false
set_option linter.unusedVariables false
set_option maxRecDepth 100000
abbrev zeroH : Hand := ⟨0, 0, 0, false, [], [], []⟩
abbrev zeroO : Op := default
def scanE (h : Hand) (k : Int) (p : Piece) (n t : Int) : Int :=
  if valH h ≠ 0 then valH h
  else if !decide (k = 1) && !decide (k = 2) then 4
  else if (!piB p || !inB n 1 999) || !inB t 0 1048576 then 1
  else if t < h.last then 9
  else if decide (h.next = 1048576) || (h.offline && decide ((h.log.length : Int) = 60)) then 2
  else if h.offline && decide (k = 1) then loadErr h p n else 0
theorem scan_b3 (p : Piece) (n t : Int) : ((((!piB p || decide (n < 1)) || decide (n > 999)) || decide (t < 0)) || decide (t > 1048576)) = ((!piB p || !inB n 1 999) || !inB t 0 1048576) := by
  unfold inB
  rw [show decide (n < 1) = !decide (n ≥ 1) from by rw [← decide_not]; exact decide_eq_decide.2 (by omega), show decide (n > 999) = !decide (n ≤ 999) from by rw [← decide_not]; exact decide_eq_decide.2 (by omega),
    show decide (t < 0) = !decide (t ≥ 0) from by rw [← decide_not]; exact decide_eq_decide.2 (by omega), show decide (t > 1048576) = !decide (t ≤ 1048576) from by rw [← decide_not]; exact decide_eq_decide.2 (by omega)]
  simp [Bool.or_assoc]
theorem scan_b6 {o : Bool} {k : Int} (hk : ¬ ((!decide (k = 1) && !decide (k = 2)) = true)) (h : (!o || decide (k = 2)) = true) : ¬ ((o && decide (k = 1)) = true) := by
  cases o <;> simp at *
  omega
theorem scan_c6 {o : Bool} {k : Int} (hk : ¬ ((!decide (k = 1) && !decide (k = 2)) = true)) (h : (!o || decide (k = 2)) = false) : (o && decide (k = 1)) = true := by
  cases o <;> simp at *
  omega
theorem flight_2 {l : List Container} {n : Int} : (flightOf l n).2 = !decide (idxI (fun c : Container => decide (c.number = n)) l < 0) := by
  unfold flightOf
  by_cases h : idxI (fun c : Container => decide (c.number = n)) l < 0
  · rw [if_pos h, decide_eq_true h]; rfl
  rw [if_neg h, decide_eq_false h]; rfl
theorem flight_1 {l : List Container} {n : Int} (h : (flightOf l n).2 = true) : ¬ (idxI (fun c : Container => decide (c.number = n)) l < 0) ∧ (flightOf l n).1 = (l.getD (idxI (fun c : Container => decide (c.number = n)) l).toNat default).flight := by
  rw [flight_2] at h
  have h' : ¬ (idxI (fun c : Container => decide (c.number = n)) l < 0) := by simpa using h
  unfold flightOf
  rw [if_neg h']
  exact ⟨h', rfl⟩
theorem load_6 {h : Hand} {p : Piece} {n : Int} (h1 : (flightOf h.conts n).2 = false) : loadErr h p n = 6 := by
  rw [flight_2] at h1
  unfold loadErr
  rw [if_pos (by simpa using h1)]
theorem load_10 {h : Hand} {p : Piece} {n : Int} (h1 : (flightOf h.conts n).2 = true) (h2 : grantedB h.grants p (flightOf h.conts n).1 = false) : loadErr h p n = 10 := by
  obtain ⟨g1, g2⟩ := flight_1 h1
  unfold loadErr
  rw [if_neg g1, if_pos (by rw [← g2]; exact h2)]
theorem load_5 {h : Hand} {p : Piece} {n : Int} (h1 : (flightOf h.conts n).2 = true) (h2 : grantedB h.grants p (flightOf h.conts n).1 = true) (h3 : loadedB h.log p.plate = true) : loadErr h p n = 5 := by
  obtain ⟨g1, g2⟩ := flight_1 h1
  unfold loadErr
  rw [if_neg g1, if_neg (by rw [← g2, h2]; decide), if_pos h3]
theorem load_0 {h : Hand} {p : Piece} {n : Int} (h1 : (flightOf h.conts n).2 = true) (h2 : grantedB h.grants p (flightOf h.conts n).1 = true) (h3 : loadedB h.log p.plate = false) : loadErr h p n = 0 := by
  obtain ⟨g1, g2⟩ := flight_1 h1
  unfold loadErr
  rw [if_neg g1, if_neg (by rw [← g2, h2]; decide), if_neg (by rw [h3]; decide)]
theorem C61 {h : Hand} {k n t : Int} {p : Piece} (hs : h.Sm) : Fn Try.prog 61 [] [.agg h.av, .v (.int .i64 k), .agg p.av, .v (.int .i64 n), .v (.int .i64 t)] [.v (.int .i64 (scanE h k p n t))] [] := by
  refine Spec.body Try.func61 rfl Try.ntmps61 (by simp) rfl ?_; intro S0 own0 v0 w0
  (refine AW.seq_k ?_; intro K hK)
  refine AW.region ?_
  refine awJ (op_box rfl rfl rfl sz26 rfl) ?_; (simp only [nA, Nat.reduceBEq, Nat.reduceEqDiff, ↓reduceIte])
  refine awJ (op_box rfl rfl rfl sz31 rfl) ?_; (simp only [nA, Nat.reduceBEq, Nat.reduceEqDiff, ↓reduceIte])
  refine awP (op_assign rfl rfl) ?_
  refine AWL.nil ?_
  (refine hK _ ?_; clear hK K; (simp only [nA, Nat.reduceBEq, Nat.reduceEqDiff, ↓reduceIte, Nat.reduceAdd, Nat.reduceSub]))
  (refine AW.seq_k ?_; intro K hK)
  (refine AW.seq_k ?_; intro K hK)
  refine AW.region ?_
  (refine awR (op_load_ptr rfl rfl rfl rfl ag26 sz26 (bl rfl) rfl) ?_)
  refine awJ (OpQ.j (op_callQ (b := true) rfl en19 (C19 (h := h) hs) (RL.cons (by exact View.same rfl) (RL.nil)) rfl)) ?_; (simp only [nA, Nat.reduceBEq, Nat.reduceEqDiff, ↓reduceIte, Nat.reduceAdd, Nat.reduceSub])
  refine awP (op_assign rfl rfl) ?_
  refine AWL.nil ?_
  (refine hK _ ?_; clear hK K; (simp only [nA]))
  (refine AW.seq_k ?_; intro K hK)
  refine AW.region ?_
  refine awP (op_move rfl rfl) ?_
  (refine awP (op_neq rfl rfl rfl) ?_)
  refine AWL.nil ?_
  (refine hK _ ?_; clear hK K; (simp only [nA]))
  refine AW.cond rfl rfl rfl (fun hc => ?_) (fun hc => ?_)
  ·
   have hc1 := hc; have g1 : valH h ≠ 0 := (by simpa using hc1)
   (refine AW.seq_k ?_; intro K hK)
   refine AW.region ?_
   refine awP (op_move rfl rfl) ?_
   refine awP (op_assign rfl rfl) ?_
   refine AWL.nil ?_
   (refine hK _ ?_; clear hK K; (simp only [nA, ↓reduceIte]))
   skip
   refine AW.ret ?_; (simp only [thenE, inBlk, Nat.reduceEqDiff, ↓reduceIte]); rw [show scanE h k p n t = valH h by unfold scanE; rw [if_pos g1]]; exact RQ.of0 rfl (.tmp (bl rfl) rfl rfl .nil)
  have hc1 := hc; have g1 : ¬ (valH h ≠ 0) := (by simpa using hc1)
  refine AW.skip ?_
  (refine hK _ ?_; clear hK K; (skip))
  (refine AW.seq_k ?_; intro K hK)
  (refine AW.seq_k ?_; intro K hK)
  refine AW.region (AWL.quiet ?_)
  refine aqP (op_move rfl rfl) ?_
  (refine aqP (op_neq rfl rfl rfl) ?_)
  refine aqP (op_move rfl rfl) ?_
  refine' aqAnd' [_, _] [22,23] rfl rfl rfl rfl rfl rfl rfl rfl rfl rfl rfl rfl (fun hb => ?_) ?_; rotate_left
  ·
   (try simp only [hcS] at hb)
   refine aqP (op_move rfl rfl) ?_
   (refine aqP (op_neq rfl rfl rfl) ?_)
   (refine aqSeg rfl rfl rfl ?_; repeat (first | exact fun _ _ => rfl | refine upd_out rfl ?_))
  simp only [nA, ↓reduceIte]
  refine AQ.nil ?_
  (refine hK _ ?_; clear hK K; (skip))
  refine AW.cond rfl rfl rfl (fun hc => ?_) (fun hc => ?_)
  ·
   have hc2 := hc
   (refine AW.seq_k ?_; intro K hK)
   refine AW.region ?_
   refine awP (op_assign rfl rfl) ?_
   refine AWL.nil ?_
   (refine hK _ ?_; clear hK K; (simp only [nA, Nat.reduceBEq, Nat.reduceEqDiff, ↓reduceIte, Nat.reduceAdd, Nat.reduceSub]))
   skip
   refine AW.ret ?_; (simp only [thenE, inBlk, Nat.reduceEqDiff, ↓reduceIte]); rw [show scanE h k p n t = 4 by unfold scanE; rw [if_neg g1, if_pos hc2]]; exact RQ.of0 rfl (.tmp (bl rfl) rfl rfl .nil)
  have hc2 := hc; have g2 : ¬ ((!decide (k = 1) && !decide (k = 2)) = true) := (by rw [show (!decide (k = 1) && !decide (k = 2)) = false from hc2]; decide)
  refine AW.skip ?_
  (refine hK _ ?_; clear hK K; (skip))
  (refine AW.seq_k ?_; intro K hK)
  (refine AW.seq_k ?_; intro K hK)
  refine AW.region (AWL.quiet ?_)
  (refine aqR (op_load_ptr rfl rfl rfl rfl ag31 sz31 (bl rfl) rfl) ?_)
  refine aqQ (op_callQ (b := true) rfl en55 (C55 (p := p)) (RL.cons (by exact View.same rfl) (RL.nil)) rfl) ?_; (simp only [nA, Nat.reduceBEq, Nat.reduceEqDiff, ↓reduceIte, Nat.reduceAdd, Nat.reduceSub])
  refine aqP (op_not rfl rfl rfl) ?_
  refine aqP (op_move rfl rfl) ?_
  refine' aqOr' [_, _] [29,30] rfl rfl rfl rfl rfl rfl rfl rfl rfl rfl rfl rfl (fun hb => ?_) ?_; rotate_left
  ·
   (try simp only [hcS] at hb)
   refine aqP (op_move rfl rfl) ?_
   refine aqP (op_lss rfl rfl rfl) ?_
   (refine aqSeg rfl rfl rfl ?_; repeat (first | exact fun _ _ => rfl | refine upd_out rfl ?_))
  simp only [nA]
  refine aqP (op_move rfl rfl) ?_
  refine' aqOr' [_, _] [33,34] rfl rfl rfl rfl rfl rfl rfl rfl rfl rfl rfl rfl (fun hb => ?_) ?_; rotate_left
  ·
   (try simp only [hcS] at hb)
   refine aqP (op_move rfl rfl) ?_
   refine aqP (op_gtr rfl rfl rfl) ?_
   (refine aqSeg rfl rfl rfl ?_; repeat (first | exact fun _ _ => rfl | refine upd_out rfl ?_))
  simp only [nA]
  refine aqP (op_move rfl rfl) ?_
  refine' aqOr' [_, _] [37,38] rfl rfl rfl rfl rfl rfl rfl rfl rfl rfl rfl rfl (fun hb => ?_) ?_; rotate_left
  ·
   (try simp only [hcS] at hb)
   refine aqP (op_move rfl rfl) ?_
   refine aqP (op_lss rfl rfl rfl) ?_
   (refine aqSeg rfl rfl rfl ?_; repeat (first | exact fun _ _ => rfl | refine upd_out rfl ?_))
  simp only [nA]
  refine aqP (op_move rfl rfl) ?_
  refine' aqOr' [_, _] [41,42] rfl rfl rfl rfl rfl rfl rfl rfl rfl rfl rfl rfl (fun hb => ?_) ?_; rotate_left
  ·
   (try simp only [hcS] at hb)
   refine aqP (op_move rfl rfl) ?_
   refine aqP (op_gtr rfl rfl rfl) ?_
   (refine aqSeg rfl rfl rfl ?_; repeat (first | exact fun _ _ => rfl | refine upd_out rfl ?_))
  simp only [nA]
  refine AQ.nil ?_
  (refine hK _ ?_; clear hK K; (skip))
  refine AW.cond rfl rfl rfl (fun hc => ?_) (fun hc => ?_)
  ·
   have hc3 := hc; have e3 : (((((!piB p || decide (n < 1)) || decide (n > 999)) || decide (t < 0)) || decide (t > 1048576))) = ((!piB p || !inB n 1 999) || !inB t 0 1048576) := scan_b3 p n t; have g3 : ((!piB p || !inB n 1 999) || !inB t 0 1048576) = true := (by rw [← e3]; exact hc3)
   (refine AW.seq_k ?_; intro K hK)
   refine AW.region ?_
   refine awP (op_assign rfl rfl) ?_
   refine AWL.nil ?_
   (refine hK _ ?_; clear hK K; (simp only [nA, Nat.reduceBEq, Nat.reduceEqDiff, ↓reduceIte, Nat.reduceAdd, Nat.reduceSub]))
   skip
   refine AW.ret ?_; (simp only [thenE, inBlk, Nat.reduceEqDiff, ↓reduceIte]); rw [show scanE h k p n t = 1 by unfold scanE; rw [if_neg g1, if_neg g2, if_pos g3]]; exact RQ.of0 rfl (.tmp (bl rfl) rfl rfl .nil)
  have hc3 := hc; have e3 : (((((!piB p || decide (n < 1)) || decide (n > 999)) || decide (t < 0)) || decide (t > 1048576))) = ((!piB p || !inB n 1 999) || !inB t 0 1048576) := scan_b3 p n t; have g3 : ¬ (((!piB p || !inB n 1 999) || !inB t 0 1048576) = true) := (by rw [← e3]; rw [show (((((!piB p || decide (n < 1)) || decide (n > 999)) || decide (t < 0)) || decide (t > 1048576))) = false from hc3]; decide)
  refine AW.skip ?_
  (refine hK _ ?_; clear hK K; (skip))
  (refine AW.seq_k ?_; intro K hK)
  (refine AW.seq_k ?_; intro K hK)
  refine AW.region ?_
  refine awP (op_move rfl rfl) ?_
  (refine awP (op_fa_ptr rfl rfl rfl fl26_2 (by exact sz3) (by decide) rfl) ?_)
  (refine awR (op_load_ptr1 rfl rfl rfl rfl ag3 rfl rfl) ?_)
  refine awP (op_lss rfl rfl rfl) ?_
  refine AWL.nil ?_
  (refine hK _ ?_; clear hK K; (simp only [nA, Nat.reduceEqDiff, ↓reduceIte]))
  refine AW.cond rfl rfl rfl (fun hc => ?_) (fun hc => ?_)
  ·
   have hc4 := hc; have g4 : t < h.last := (by simpa using hc4)
   (refine AW.seq_k ?_; intro K hK)
   refine AW.region ?_
   refine awP (op_assign rfl rfl) ?_
   refine AWL.nil ?_
   (refine hK _ ?_; clear hK K; (simp only [nA, Nat.reduceBEq, Nat.reduceEqDiff, ↓reduceIte, Nat.reduceAdd, Nat.reduceSub]))
   skip
   refine AW.ret ?_; (simp only [thenE, inBlk, Nat.reduceEqDiff, ↓reduceIte]); rw [show scanE h k p n t = 9 by unfold scanE; rw [if_neg g1, if_neg g2, if_neg g3, if_pos g4]]; exact RQ.of0 rfl (.tmp (bl rfl) rfl rfl .nil)
  have hc4 := hc; have g4 : ¬ (t < h.last) := (by simpa using hc4)
  refine AW.skip ?_
  (refine hK _ ?_; clear hK K; (skip))
  (refine AW.seq_k ?_; intro K hK)
  (refine AW.seq_k ?_; intro K hK)
  refine AW.region (AWL.quiet ?_)
  (refine aqP (op_fa_ptr rfl rfl rfl fl26_1 (by exact sz3) (by decide) rfl) ?_)
  (refine aqR (op_load_ptr1 rfl rfl rfl rfl ag3 rfl rfl) ?_)
  (refine aqP (op_eql rfl rfl rfl) ?_)
  refine aqP (op_move rfl rfl) ?_
  refine' aqOrN' [_, _, _, _, _, _, _, _] [52,53,54,55,56,57,58,59] rfl rfl rfl rfl rfl rfl rfl rfl rfl rfl rfl rfl (fun hb => ?_) ?_; rotate_left
  ·
   (try simp only [hcS] at hb)
   (refine aqP (op_fa_ptr rfl rfl rfl fl26_3 (by exact sz4) (by decide) rfl) ?_)
   (refine aqR (op_load_ptr1 rfl rfl rfl rfl ag4 rfl rfl) ?_)
   refine aqP (op_move rfl rfl) ?_
   refine' aqAnd' [_, _, _, _] [55,56,57,58] rfl rfl rfl rfl rfl rfl rfl rfl rfl rfl rfl rfl (fun hb => ?_) ?_; rotate_left
   ·
    (try simp only [hcS] at hb)
    (refine aqP (op_fa_ptr rfl rfl rfl fl26_6 (by exact sz24) (by decide) rfl) ?_)
    (refine aqR (op_load_ptr1 rfl rfl rfl rfl ag24 rfl rfl) ?_)
    refine aqP (op_len_ro (n := h.log.length) rfl rfl Try.underlying24 (.inr (.inl ⟨_, rfl, by simp⟩))) ?_
    (refine aqP (op_eql rfl rfl rfl) ?_)
    (refine aqSeg rfl rfl rfl ?_; repeat (first | exact fun _ _ => rfl | refine upd_out rfl ?_))
   simp only [nA]
   (refine aqSeg rfl rfl rfl ?_; repeat (first | exact fun _ _ => rfl | refine upd_out rfl ?_ | refine era_out rfl ?_))
  simp only [nA]
  refine AQ.nil ?_
  (refine hK _ ?_; clear hK K; (skip))
  refine AW.cond rfl rfl rfl (fun hc => ?_) (fun hc => ?_)
  ·
   have hc5 := hc
   (refine AW.seq_k ?_; intro K hK)
   refine AW.region ?_
   refine awP (op_assign rfl rfl) ?_
   refine AWL.nil ?_
   (refine hK _ ?_; clear hK K; (simp only [nA, Nat.reduceBEq, Nat.reduceEqDiff, ↓reduceIte, Nat.reduceAdd, Nat.reduceSub]))
   skip
   refine AW.ret ?_; (simp only [thenE, inBlk, Nat.reduceEqDiff, ↓reduceIte]); rw [show scanE h k p n t = 2 by unfold scanE; rw [if_neg g1, if_neg g2, if_neg g3, if_neg g4, if_pos hc5]]; exact RQ.of0 rfl (.tmp (bl rfl) rfl rfl .nil)
  have hc5 := hc; have g5 : ¬ ((decide (h.next = 1048576) || (h.offline && decide ((h.log.length : Int) = 60))) = true) := (by rw [show (decide (h.next = 1048576) || (h.offline && decide ((h.log.length : Int) = 60))) = false from hc5]; decide)
  refine AW.skip ?_
  (refine hK _ ?_; clear hK K; (skip))
  (refine AW.seq_k ?_; intro K hK)
  (refine AW.seq_k ?_; intro K hK)
  refine AW.region (AWL.quiet ?_)
  (refine aqP (op_fa_ptr rfl rfl rfl fl26_3 (by exact sz4) (by decide) rfl) ?_)
  (refine aqR (op_load_ptr1 rfl rfl rfl rfl ag4 rfl rfl) ?_)
  refine aqP (op_not rfl rfl rfl) ?_
  refine aqP (op_move rfl rfl) ?_
  refine' aqOr' [_, _] [65,66] rfl rfl rfl rfl rfl rfl rfl rfl rfl rfl rfl rfl (fun hb => ?_) ?_; rotate_left
  ·
   (try simp only [hcS] at hb)
   refine aqP (op_move rfl rfl) ?_
   (refine aqP (op_eql rfl rfl rfl) ?_)
   (refine aqSeg rfl rfl rfl ?_; repeat (first | exact fun _ _ => rfl | refine upd_out rfl ?_))
  simp only [nA]
  refine AQ.nil ?_
  (refine hK _ ?_; clear hK K; (skip))
  refine AW.cond rfl rfl rfl (fun hc => ?_) (fun hc => ?_)
  ·
   have hc6 := hc; have g6 : ¬ ((h.offline && decide (k = 1)) = true) := scan_b6 g2 hc6
   (refine AW.seq_k ?_; intro K hK)
   refine AW.region ?_
   refine awP (op_assign rfl rfl) ?_
   refine AWL.nil ?_
   (refine hK _ ?_; clear hK K; (simp only [nA, Nat.reduceBEq, Nat.reduceEqDiff, ↓reduceIte, Nat.reduceAdd, Nat.reduceSub]))
   skip
   refine AW.ret ?_; (simp only [thenE, inBlk, Nat.reduceEqDiff, ↓reduceIte]); rw [show scanE h k p n t = 0 by unfold scanE; rw [if_neg g1, if_neg g2, if_neg g3, if_neg g4, if_neg g5, if_neg g6]]; exact RQ.of0 rfl (.tmp (bl rfl) rfl rfl .nil)
  have hc6 := hc; have g6 : (h.offline && decide (k = 1)) = true := scan_c6 g2 hc6
  refine AW.skip ?_
  (refine hK _ ?_; clear hK K; (skip))
  (refine AW.seq_k ?_; intro K hK)
  refine AW.region ?_
  (refine awP (op_fa_ptr rfl rfl rfl fl26_5 (by exact sz23) (by decide) rfl) ?_)
  (refine awR (op_load_ptr1 rfl rfl rfl rfl ag23 rfl rfl) ?_)
  refine awP (op_move rfl rfl) ?_
  refine awJ (op_call (b := false) rfl en78 (C78 (l := h.conts) (n := n) (by have := hs.c; omega)) (RL.cons (by exact View.same rfl) (RL.cons (by exact View.same rfl) (RL.nil))) rfl (fun h => by cases h) rfl rfl) ?_; (simp only [nA, Nat.reduceEqDiff, ↓reduceIte])
  refine awP (op_move rfl rfl) ?_
  refine awP (op_extract rfl rfl rfl) ?_
  refine awP (op_extract rfl rfl rfl) ?_
  refine awJ (op_alloc rfl ze73 rfl) ?_; (simp only [nA, Nat.reduceBEq, Nat.reduceEqDiff, ↓reduceIte])
  refine awJ (op_store rfl rfl rfl rfl rfl rfl sz73 rfl (bl rfl) rfl) ?_; (simp only [nA, Nat.reduceBEq, Nat.reduceEqDiff, ↓reduceIte])
  refine awP (op_assign rfl rfl) ?_
  refine AWL.nil ?_
  (refine hK _ ?_; clear hK K; (simp only [nA, ↓reduceIte]))
  (refine AW.seq_k ?_; intro K hK)
  (refine AW.seq_k ?_; intro K hK)
  refine AW.region ?_
  refine awP (op_move rfl rfl) ?_
  refine awP (op_not rfl rfl rfl) ?_
  refine AWL.nil ?_
  (refine hK _ ?_; clear hK K; (simp only [nA]))
  refine AW.cond rfl rfl rfl (fun hc => ?_) (fun hc => ?_)
  ·
   have hc7 := hc
   (refine AW.seq_k ?_; intro K hK)
   refine AW.region ?_
   refine awP (op_assign rfl rfl) ?_
   refine AWL.nil ?_
   (refine hK _ ?_; clear hK K; (simp only [nA, Nat.reduceBEq, Nat.reduceEqDiff, ↓reduceIte, Nat.reduceAdd, Nat.reduceSub]))
   skip
   refine AW.ret ?_; (simp only [thenE, inBlk, Nat.reduceEqDiff, ↓reduceIte]); rw [show scanE h k p n t = loadErr h p n by unfold scanE; rw [if_neg g1, if_neg g2, if_neg g3, if_neg g4, if_neg g5, if_pos g6]]; rw [load_6 (by simpa using hc7)]; exact RQ.of0 rfl (.tmp (bl rfl) rfl rfl .nil)
  have hc7 := hc
  refine AW.skip ?_
  (refine hK _ ?_; clear hK K; (skip))
  (refine AW.seq_k ?_; intro K hK)
  (refine AW.seq_k ?_; intro K hK)
  refine AW.region ?_
  (refine awP (op_fa_ptr rfl rfl rfl fl26_4 (by exact sz22) (by decide) rfl) ?_)
  (refine awR (op_load_ptr1 rfl rfl rfl rfl ag22 rfl rfl) ?_)
  (refine awR (op_load_ptr rfl rfl rfl rfl ag31 sz31 (bl rfl) rfl) ?_)
  (refine awR (op_load_ptr rfl rfl rfl rfl ag73 sz73 (bl rfl) rfl) ?_)
  refine awJ (OpQ.j (op_callQ (b := true) rfl en79 (C79 (l := h.grants) (p := p) (f := (flightOf h.conts n).1) (by have := hs.g; omega)) (RL.cons (by exact View.same rfl) (RL.cons (by exact View.same rfl) (RL.cons (by exact View.same rfl) (RL.nil)))) rfl)) ?_; (simp only [nA, Nat.reduceBEq, Nat.reduceEqDiff, ↓reduceIte, Nat.reduceAdd, Nat.reduceSub])
  refine awP (op_not rfl rfl rfl) ?_
  refine AWL.nil ?_
  (refine hK _ ?_; clear hK K; (simp only [nA, Nat.reduceBEq, Nat.reduceEqDiff, ↓reduceIte, Nat.reduceAdd, Nat.reduceSub]))
  refine AW.cond rfl rfl rfl (fun hc => ?_) (fun hc => ?_)
  ·
   have hc8 := hc
   (refine AW.seq_k ?_; intro K hK)
   refine AW.region ?_
   refine awP (op_assign rfl rfl) ?_
   refine AWL.nil ?_
   (refine hK _ ?_; clear hK K; (simp only [nA, Nat.reduceBEq, Nat.reduceEqDiff, ↓reduceIte, Nat.reduceAdd, Nat.reduceSub]))
   skip
   refine AW.ret ?_; (simp only [thenE, inBlk, Nat.reduceEqDiff, ↓reduceIte]); rw [show scanE h k p n t = loadErr h p n by unfold scanE; rw [if_neg g1, if_neg g2, if_neg g3, if_neg g4, if_neg g5, if_pos g6]]; rw [load_10 (by simpa using hc7) (by simpa using hc8)]; exact RQ.of0 rfl (.tmp (bl rfl) rfl rfl .nil)
  have hc8 := hc
  refine AW.skip ?_
  (refine hK _ ?_; clear hK K; (skip))
  (refine AW.seq_k ?_; intro K hK)
  (refine AW.seq_k ?_; intro K hK)
  refine AW.region ?_
  (refine awP (op_fa_ptr rfl rfl rfl fl26_6 (by exact sz24) (by decide) rfl) ?_)
  (refine awR (op_load_ptr1 rfl rfl rfl rfl ag24 rfl rfl) ?_)
  (refine awP (op_fa_ptr rfl rfl rfl fl31_0 (by exact sz29) (by decide) rfl) ?_)
  (refine awR (op_load_ptr rfl rfl rfl rfl ag29 sz29 (bl rfl) rfl) ?_)
  refine awJ (OpQ.j (op_callQ (b := true) rfl en39 (C39 (l := h.log) (p := p.plate) (by have := hs.l; omega)) (RL.cons (by exact View.same rfl) (RL.cons (by exact View.same rfl) (RL.nil))) rfl)) ?_; (simp only [nA, Nat.reduceBEq, Nat.reduceEqDiff, ↓reduceIte, Nat.reduceAdd, Nat.reduceSub])
  refine AWL.nil ?_
  (refine hK _ ?_; clear hK K; (skip))
  refine AW.cond rfl rfl rfl (fun hc => ?_) (fun hc => ?_)
  ·
   have hc9 := hc
   (refine AW.seq_k ?_; intro K hK)
   refine AW.region ?_
   refine awP (op_assign rfl rfl) ?_
   refine AWL.nil ?_
   (refine hK _ ?_; clear hK K; (simp only [nA, Nat.reduceBEq, Nat.reduceEqDiff, ↓reduceIte, Nat.reduceAdd, Nat.reduceSub]))
   skip
   refine AW.ret ?_; (simp only [thenE, inBlk, Nat.reduceEqDiff, ↓reduceIte]); rw [show scanE h k p n t = loadErr h p n by unfold scanE; rw [if_neg g1, if_neg g2, if_neg g3, if_neg g4, if_neg g5, if_pos g6]]; rw [load_5 (by simpa using hc7) (by simpa using hc8) hc9]; exact RQ.of0 rfl (.tmp (bl rfl) rfl rfl .nil)
  have hc9 := hc
  refine AW.skip ?_
  (refine hK _ ?_; clear hK K; (skip))
  (refine AW.seq_k ?_; intro K hK)
  refine AW.region ?_
  refine awP (op_assign rfl rfl) ?_
  refine AWL.nil ?_
  (refine hK _ ?_; clear hK K; (simp only [nA, Nat.reduceBEq, Nat.reduceEqDiff, ↓reduceIte, Nat.reduceAdd, Nat.reduceSub]))
  skip
  refine AW.ret ?_; rw [show scanE h k p n t = loadErr h p n by unfold scanE; rw [if_neg g1, if_neg g2, if_neg g3, if_neg g4, if_neg g5, if_pos g6]]; rw [load_0 (by simpa using hc7) (by simpa using hc8) hc9]; exact RQ.of0 rfl (.tmp (bl rfl) rfl rfl .nil)
end Go.Proofs.Ytdnofpggdddimaa
namespace Go.Proofs.Ytdnofpggdddimaa
open Go.RowKit
set_option linter.unusedSimpArgs false
set_option linter.unusedVariables false
set_option maxRecDepth 100000
theorem C58 {e : Int} : Fn Try.prog 58 [] [.v (.int .i64 e)] [.agg zeroH.av, .agg zeroO.av, .v (.int .i64 e)] [] := by
  refine Spec.body Try.func58 rfl Try.ntmps58 (by simp) rfl ?_; intro S0 own0 v0 w0
  (refine AW.seq_k ?_; intro K hK)
  refine AW.region ?_
  refine awJ (op_alloc rfl ze26 rfl) ?_; (simp only [nA, Nat.reduceBEq, Nat.reduceEqDiff, ↓reduceIte])
  refine awJ (op_alloc rfl ze33 rfl) ?_; (simp only [nA, Nat.reduceBEq, Nat.reduceEqDiff, ↓reduceIte])
  refine awP (op_assign rfl rfl) ?_
  refine AWL.nil ?_
  (refine hK _ ?_; clear hK K; (simp only [nA, Nat.reduceBEq, Nat.reduceEqDiff, ↓reduceIte, Nat.reduceAdd, Nat.reduceSub]))
  (refine AW.seq_k ?_; intro K hK)
  refine AW.region ?_
  refine awP (op_build2 (xs := [.v (.int .i64 0), .v (.int .i64 0), .v (.int .i64 0), .v (.bool false), .v (.slice none 0 0), .v (.slice none 0 0), .v (.slice none 0 0)]) rfl pl26 ze26 [] rfl rfl rfl) ?_
  refine awP (op_build2 (xs := [.v (.int .i64 0), .v (.int .i64 0), .v (.int .i64 0), .v (.int .i64 0), .v (.int .i64 0), .v (.int .i64 0), .v (.int .i64 0), .v (.int .i64 0), .v (.int .i64 0), .v (.int .i64 0)]) rfl pl33 ze33 [] rfl rfl rfl) ?_
  refine awP (op_move rfl rfl) ?_
  refine awJ (op_store rfl rfl rfl rfl rfl rfl sz26 rfl (bl rfl) rfl) ?_; (simp only [nA, Nat.reduceBEq, Nat.reduceEqDiff, ↓reduceIte])
  refine awJ (op_store rfl rfl rfl rfl rfl rfl sz33 rfl (bl rfl) rfl) ?_; (simp only [nA, Nat.reduceBEq, Nat.reduceEqDiff, ↓reduceIte])
  refine awP (op_assign rfl rfl) ?_
  refine AWL.nil ?_
  (refine hK _ ?_; clear hK K; (simp only [nA]))
  refine AW.gh (Gh.cell0 (r := 0) (A := none) (c := 0) (row := [.v (.int .i64 0), .v (.int .i64 0), .v (.int .i64 0), .v (.bool false), .v (.slice none 0 0), .v (.slice none 0 0), .v (.slice none 0 0)]) 0 4 rfl rfl rfl (by decide) rfl) ?_; refine AW.gh (Gh.cell0 (r := 0) (A := none) (c := 0) (row := [.v (.int .i64 0), .v (.int .i64 0), .v (.int .i64 0), .v (.bool false), .ro [], .v (.slice none 0 0), .v (.slice none 0 0)]) 0 5 rfl rfl rfl (by decide) rfl) ?_; refine AW.gh (Gh.cell0 (r := 0) (A := none) (c := 0) (row := [.v (.int .i64 0), .v (.int .i64 0), .v (.int .i64 0), .v (.bool false), .ro [], .ro [], .v (.slice none 0 0)]) 0 6 rfl rfl rfl (by decide) rfl) ?_; (simp only [nA, Nat.reduceBEq, Nat.reduceEqDiff, ↓reduceIte, Nat.reduceAdd, Nat.reduceSub])
  refine AW.ret ?_; exact RQ.of0 rfl (.cell (bl rfl) rfl rfl rfl ag26 sz26 (bl rfl) rfl rfl (.cell (bl rfl) rfl rfl rfl ag33 sz33 (bl rfl) rfl rfl (.tmp (bl rfl) rfl rfl .nil)))
def newOp (h : Hand) (k : Int) (p : Piece) (n t : Int) : Op := ⟨t, h.number, h.next, k, n, p⟩
def scanH (h : Hand) (k : Int) (p : Piece) (n t : Int) : Hand := ⟨h.number, h.next + 1, t, h.offline, h.grants, h.conts.map bareC, if h.offline then h.log ++ [newOp h k p n t] else h.log⟩
def scanR (h : Hand) (k : Int) (p : Piece) (n t : Int) : Hand × Op × Int := if scanE h k p n t = 0 then (scanH h k p n t, newOp h k p n t, 0) else (zeroH, zeroO, scanE h k p n t)
theorem scan_err {h : Hand} {k : Int} {p : Piece} {n t e : Int} (he : scanE h k p n t = e) (h0 : e ≠ 0) : scanR h k p n t = (zeroH, zeroO, e) := by
  unfold scanR
  rw [if_neg (by rw [he]; exact h0), he]
theorem scan_on {h : Hand} {k : Int} {p : Piece} {n t : Int} (he : scanE h k p n t = 0) (ho : h.offline = true) : scanR h k p n t = (⟨h.number, h.next + 1, t, h.offline, h.grants, h.conts.map bareC, h.log ++ [newOp h k p n t]⟩, newOp h k p n t, 0) := by
  unfold scanR scanH
  rw [if_pos he, if_pos ho]
theorem scan_off {h : Hand} {k : Int} {p : Piece} {n t : Int} (he : scanE h k p n t = 0) (ho : h.offline = false) : scanR h k p n t = (⟨h.number, h.next + 1, t, h.offline, h.grants, h.conts.map bareC, h.log⟩, newOp h k p n t, 0) := by
  unfold scanR scanH
  rw [if_pos he, if_neg (by rw [ho]; decide)]
theorem scan_val {h : Hand} {k : Int} {p : Piece} {n t : Int} (he : scanE h k p n t = 0) : valH h = 0 := by
  by_cases hv : valH h = 0
  · exact hv
  unfold scanE at he
  rw [if_pos hv] at he
  exact absurd he hv
theorem val_parts {h : Hand} (hv : valH h = 0) : numB h = true ∧ barB h = true ∧ grsB h.grants = true ∧ empB h.conts = true ∧ logB h = true := by
  unfold valH at hv
  by_cases hb : ((((numB h && barB h) && grsB h.grants) && empB h.conts) && logB h) = true
  · simp only [Bool.and_eq_true] at hb
    exact ⟨hb.1.1.1.1, hb.1.1.1.2, hb.1.1.2, hb.1.2, hb.2⟩
  rw [if_neg hb] at hv; cases hv
theorem C26 {h : Hand} {k n t : Int} {p : Piece} (hs : h.Sm) : Fn Try.prog 26 [] [.agg h.av, .v (.int .i64 k), .agg p.av, .v (.int .i64 n), .v (.int .i64 t)] [.agg (scanR h k p n t).1.av, .agg (scanR h k p n t).2.1.av, .v (.int .i64 (scanR h k p n t).2.2)] [] := by
  refine Spec.body Try.func26 rfl Try.ntmps26 (by simp) rfl ?_; intro S0 own0 v0 w0
  (refine AW.seq_k ?_; intro K hK)
  refine AW.region ?_
  refine awJ (op_box rfl rfl rfl sz26 rfl) ?_; (simp only [nA, Nat.reduceBEq, Nat.reduceEqDiff, ↓reduceIte])
  refine awJ (op_box rfl rfl rfl sz31 rfl) ?_; (simp only [nA, Nat.reduceBEq, Nat.reduceEqDiff, ↓reduceIte])
  refine awJ (op_alloc rfl ze26 rfl) ?_; (simp only [nA, Nat.reduceBEq, Nat.reduceEqDiff, ↓reduceIte])
  refine awJ (op_alloc rfl ze33 rfl) ?_; (simp only [nA, Nat.reduceBEq, Nat.reduceEqDiff, ↓reduceIte])
  refine awP (op_assign rfl rfl) ?_
  refine AWL.nil ?_
  (refine hK _ ?_; clear hK K; (simp only [nA, Nat.reduceBEq, Nat.reduceEqDiff, ↓reduceIte, Nat.reduceAdd, Nat.reduceSub]))
  (refine AW.seq_k ?_; intro K hK)
  refine AW.region ?_
  refine awP (op_assign rfl rfl) ?_
  refine AWL.nil ?_
  (refine hK _ ?_; clear hK K; (simp only [nA, Nat.reduceBEq, Nat.reduceEqDiff, ↓reduceIte, Nat.reduceAdd, Nat.reduceSub]))
  (refine AW.seq_k ?_; intro K hK)
  (refine AW.seq_k ?_; intro K hK)
  refine AW.region ?_
  (refine awR (op_load_ptr rfl rfl rfl rfl ag26 sz26 (bl rfl) rfl) ?_)
  refine awJ (OpQ.j (op_callQ (b := true) rfl en18 (C18 (h := h) hs) (RL.cons (by exact View.same rfl) (RL.nil)) rfl)) ?_; (simp only [nA, Nat.reduceBEq, Nat.reduceEqDiff, ↓reduceIte, Nat.reduceAdd, Nat.reduceSub])
  refine awP (op_assign rfl rfl) ?_
  refine AWL.nil ?_
  (refine hK _ ?_; clear hK K; (simp only [nA]))
  (refine AW.seq_k ?_; intro K hK)
  refine AW.region ?_
  refine awP (op_move rfl rfl) ?_
  (refine awP (op_neq rfl rfl rfl) ?_)
  refine AWL.nil ?_
  (refine hK _ ?_; clear hK K; (simp only [nA]))
  refine AW.cond rfl rfl rfl (fun hc => ?_) (fun hc => ?_)
  ·
   have hc1 := hc; have g1 : valH h ≠ 0 := (by simpa using hc1)
   (refine AW.seq_k ?_; intro K hK)
   refine AW.region ?_
   refine awP (op_move rfl rfl) ?_
   refine awP (op_move rfl rfl) ?_
   refine awJ (op_valS (b := false) rfl rfl en58 (C58) (RL.cons (by exact View.same rfl) (RL.nil)) rfl (fun h => by cases h) rfl rfl) ?_; (simp only [nA, ↓reduceIte])
   refine awP (op_extract rfl rfl rfl) ?_
   refine awP (op_extract rfl rfl rfl) ?_
   refine awP (op_extract rfl rfl rfl) ?_
   refine awJ (op_store rfl rfl rfl rfl rfl rfl sz26 rfl (bl rfl) rfl) ?_; (simp only [nA, Nat.reduceBEq, Nat.reduceEqDiff, ↓reduceIte])
   refine awJ (op_store rfl rfl rfl rfl rfl rfl sz33 rfl (bl rfl) rfl) ?_; (simp only [nA, Nat.reduceBEq, Nat.reduceEqDiff, ↓reduceIte])
   refine awP (op_assign rfl rfl) ?_
   refine AWL.nil ?_
   (refine hK _ ?_; clear hK K; (simp only [nA]))
   skip
   refine AW.ret ?_; (simp only [thenE, inBlk, Nat.reduceEqDiff, ↓reduceIte]); rw [scan_err (e := valH h) (by unfold scanE; rw [if_pos g1]) g1]; exact RQ.of0 rfl (.cell (bl rfl) rfl rfl rfl ag26 sz26 (bl rfl) rfl rfl (.cell (bl rfl) rfl rfl rfl ag33 sz33 (bl rfl) rfl rfl (.tmp (bl rfl) rfl rfl .nil)))
  have hc1 := hc; have g1 : ¬ (valH h ≠ 0) := (by simpa using hc1)
  refine AW.skip ?_
  (refine hK _ ?_; clear hK K; (skip))
  (refine AW.seq_k ?_; intro K hK)
  (refine AW.seq_k ?_; intro K hK)
  refine AW.region (AWL.quiet ?_)
  refine aqP (op_move rfl rfl) ?_
  (refine aqP (op_neq rfl rfl rfl) ?_)
  refine aqP (op_move rfl rfl) ?_
  refine' aqAnd' [_, _] [32,33] rfl rfl rfl rfl rfl rfl rfl rfl rfl rfl rfl rfl (fun hb => ?_) ?_; rotate_left
  ·
   (try simp only [hcS] at hb)
   refine aqP (op_move rfl rfl) ?_
   (refine aqP (op_neq rfl rfl rfl) ?_)
   (refine aqSeg rfl rfl rfl ?_; repeat (first | exact fun _ _ => rfl | refine upd_out rfl ?_))
  simp only [nA, ↓reduceIte]
  refine AQ.nil ?_
  (refine hK _ ?_; clear hK K; (skip))
  refine AW.cond rfl rfl rfl (fun hc => ?_) (fun hc => ?_)
  ·
   have hc2 := hc
   (refine AW.seq_k ?_; intro K hK)
   refine AW.region ?_
   refine awP (op_move rfl rfl) ?_
   refine awJ (op_valS (b := false) rfl rfl en58 (C58) (RL.cons (by exact View.same rfl) (RL.nil)) rfl (fun h => by cases h) rfl rfl) ?_; (simp only [nA, Nat.reduceEqDiff, ↓reduceIte])
   refine awP (op_extract rfl rfl rfl) ?_
   refine awP (op_extract rfl rfl rfl) ?_
   refine awP (op_extract rfl rfl rfl) ?_
   refine awJ (op_store rfl rfl rfl rfl rfl rfl sz26 rfl (bl rfl) rfl) ?_; (simp only [nA, Nat.reduceBEq, Nat.reduceEqDiff, ↓reduceIte])
   refine awJ (op_store rfl rfl rfl rfl rfl rfl sz33 rfl (bl rfl) rfl) ?_; (simp only [nA, Nat.reduceBEq, Nat.reduceEqDiff, ↓reduceIte])
   refine awP (op_assign rfl rfl) ?_
   refine AWL.nil ?_
   (refine hK _ ?_; clear hK K; (simp only [nA]))
   skip
   refine AW.ret ?_; (simp only [thenE, inBlk, Nat.reduceEqDiff, ↓reduceIte]); rw [scan_err (e := 4) (by unfold scanE; rw [if_neg g1, if_pos hc2]) (by decide)]; exact RQ.of0 rfl (.cell (bl rfl) rfl rfl rfl ag26 sz26 (bl rfl) rfl rfl (.cell (bl rfl) rfl rfl rfl ag33 sz33 (bl rfl) rfl rfl (.tmp (bl rfl) rfl rfl .nil)))
  have hc2 := hc; have g2 : ¬ ((!decide (k = 1) && !decide (k = 2)) = true) := (by rw [show (!decide (k = 1) && !decide (k = 2)) = false from hc2]; decide)
  refine AW.skip ?_
  (refine hK _ ?_; clear hK K; (skip))
  (refine AW.seq_k ?_; intro K hK)
  (refine AW.seq_k ?_; intro K hK)
  refine AW.region (AWL.quiet ?_)
  (refine aqR (op_load_ptr rfl rfl rfl rfl ag31 sz31 (bl rfl) rfl) ?_)
  refine aqQ (op_callQ (b := true) rfl en54 (C54 (p := p)) (RL.cons (by exact View.same rfl) (RL.nil)) rfl) ?_; (simp only [nA, Nat.reduceBEq, Nat.reduceEqDiff, ↓reduceIte, Nat.reduceAdd, Nat.reduceSub])
  refine aqP (op_not rfl rfl rfl) ?_
  refine aqP (op_move rfl rfl) ?_
  refine' aqOr' [_, _, _] [44,45,46] rfl rfl rfl rfl rfl rfl rfl rfl rfl rfl rfl rfl (fun hb => ?_) ?_; rotate_left
  ·
   (try simp only [hcS] at hb)
   refine aqP (op_move rfl rfl) ?_
   refine aqQ (op_callQ (b := true) rfl en43 (C43) (RL.cons (by exact View.same rfl) (RL.cons (by exact View.same rfl) (RL.cons (by exact View.same rfl) (RL.nil)))) rfl) ?_; (simp only [nA, Nat.reduceEqDiff, ↓reduceIte])
   refine aqP (op_not rfl rfl rfl) ?_
   (refine aqSeg rfl rfl rfl ?_; repeat (first | exact fun _ _ => rfl | refine upd_out rfl ?_))
  simp only [nA]
  refine aqP (op_move rfl rfl) ?_
  refine' aqOr' [_, _, _] [49,50,51] rfl rfl rfl rfl rfl rfl rfl rfl rfl rfl rfl rfl (fun hb => ?_) ?_; rotate_left
  ·
   (try simp only [hcS] at hb)
   refine aqP (op_move rfl rfl) ?_
   refine aqQ (op_callQ (b := true) rfl en43 (C43) (RL.cons (by exact View.same rfl) (RL.cons (by exact View.same rfl) (RL.cons (by exact View.same rfl) (RL.nil)))) rfl) ?_; (simp only [nA, Nat.reduceEqDiff, ↓reduceIte])
   refine aqP (op_not rfl rfl rfl) ?_
   (refine aqSeg rfl rfl rfl ?_; repeat (first | exact fun _ _ => rfl | refine upd_out rfl ?_))
  simp only [nA]
  refine AQ.nil ?_
  (refine hK _ ?_; clear hK K; (skip))
  refine AW.cond rfl rfl rfl (fun hc => ?_) (fun hc => ?_)
  ·
   have hc3 := hc
   (refine AW.seq_k ?_; intro K hK)
   refine AW.region ?_
   refine awP (op_move rfl rfl) ?_
   refine awJ (op_valS (b := false) rfl rfl en58 (C58) (RL.cons (by exact View.same rfl) (RL.nil)) rfl (fun h => by cases h) rfl rfl) ?_; (simp only [nA, Nat.reduceEqDiff, ↓reduceIte])
   refine awP (op_extract rfl rfl rfl) ?_
   refine awP (op_extract rfl rfl rfl) ?_
   refine awP (op_extract rfl rfl rfl) ?_
   refine awJ (op_store rfl rfl rfl rfl rfl rfl sz26 rfl (bl rfl) rfl) ?_; (simp only [nA, Nat.reduceBEq, Nat.reduceEqDiff, ↓reduceIte])
   refine awJ (op_store rfl rfl rfl rfl rfl rfl sz33 rfl (bl rfl) rfl) ?_; (simp only [nA, Nat.reduceBEq, Nat.reduceEqDiff, ↓reduceIte])
   refine awP (op_assign rfl rfl) ?_
   refine AWL.nil ?_
   (refine hK _ ?_; clear hK K; (simp only [nA]))
   skip
   refine AW.ret ?_; (simp only [thenE, inBlk, Nat.reduceEqDiff, ↓reduceIte]); rw [scan_err (e := 1) (by unfold scanE; rw [if_neg g1, if_neg g2, if_pos hc3]) (by decide)]; exact RQ.of0 rfl (.cell (bl rfl) rfl rfl rfl ag26 sz26 (bl rfl) rfl rfl (.cell (bl rfl) rfl rfl rfl ag33 sz33 (bl rfl) rfl rfl (.tmp (bl rfl) rfl rfl .nil)))
  have hc3 := hc; have g3 : ¬ (((!piB p || !inB n 1 999) || !inB t 0 1048576) = true) := (by rw [show ((!piB p || !inB n 1 999) || !inB t 0 1048576) = false from hc3]; decide)
  refine AW.skip ?_
  (refine hK _ ?_; clear hK K; (skip))
  (refine AW.seq_k ?_; intro K hK)
  (refine AW.seq_k ?_; intro K hK)
  refine AW.region ?_
  refine awP (op_move rfl rfl) ?_
  (refine awP (op_fa_ptr rfl rfl rfl fl26_2 (by exact sz3) (by decide) rfl) ?_)
  (refine awR (op_load_ptr1 rfl rfl rfl rfl ag3 rfl rfl) ?_)
  refine awP (op_lss rfl rfl rfl) ?_
  refine AWL.nil ?_
  (refine hK _ ?_; clear hK K; (simp only [nA, Nat.reduceEqDiff, ↓reduceIte]))
  refine AW.cond rfl rfl rfl (fun hc => ?_) (fun hc => ?_)
  ·
   have hc4 := hc; have g4 : t < h.last := (by simpa using hc4)
   (refine AW.seq_k ?_; intro K hK)
   refine AW.region ?_
   refine awP (op_move rfl rfl) ?_
   refine awJ (op_valS (b := false) rfl rfl en58 (C58) (RL.cons (by exact View.same rfl) (RL.nil)) rfl (fun h => by cases h) rfl rfl) ?_; (simp only [nA, Nat.reduceEqDiff, ↓reduceIte])
   refine awP (op_extract rfl rfl rfl) ?_
   refine awP (op_extract rfl rfl rfl) ?_
   refine awP (op_extract rfl rfl rfl) ?_
   refine awJ (op_store rfl rfl rfl rfl rfl rfl sz26 rfl (bl rfl) rfl) ?_; (simp only [nA, Nat.reduceBEq, Nat.reduceEqDiff, ↓reduceIte])
   refine awJ (op_store rfl rfl rfl rfl rfl rfl sz33 rfl (bl rfl) rfl) ?_; (simp only [nA, Nat.reduceBEq, Nat.reduceEqDiff, ↓reduceIte])
   refine awP (op_assign rfl rfl) ?_
   refine AWL.nil ?_
   (refine hK _ ?_; clear hK K; (simp only [nA]))
   skip
   refine AW.ret ?_; (simp only [thenE, inBlk, Nat.reduceEqDiff, ↓reduceIte]); rw [scan_err (e := 9) (by unfold scanE; rw [if_neg g1, if_neg g2, if_neg g3, if_pos g4]) (by decide)]; exact RQ.of0 rfl (.cell (bl rfl) rfl rfl rfl ag26 sz26 (bl rfl) rfl rfl (.cell (bl rfl) rfl rfl rfl ag33 sz33 (bl rfl) rfl rfl (.tmp (bl rfl) rfl rfl .nil)))
  have hc4 := hc; have g4 : ¬ (t < h.last) := (by simpa using hc4)
  refine AW.skip ?_
  (refine hK _ ?_; clear hK K; (skip))
  (refine AW.seq_k ?_; intro K hK)
  (refine AW.seq_k ?_; intro K hK)
  refine AW.region (AWL.quiet ?_)
  (refine aqP (op_fa_ptr rfl rfl rfl fl26_1 (by exact sz3) (by decide) rfl) ?_)
  (refine aqR (op_load_ptr1 rfl rfl rfl rfl ag3 rfl rfl) ?_)
  (refine aqP (op_eql rfl rfl rfl) ?_)
  refine aqP (op_move rfl rfl) ?_
  refine' aqOrN' [_, _, _, _, _, _, _, _] [71,72,73,74,75,76,77,78] rfl rfl rfl rfl rfl rfl rfl rfl rfl rfl rfl rfl (fun hb => ?_) ?_; rotate_left
  ·
   (try simp only [hcS] at hb)
   (refine aqP (op_fa_ptr rfl rfl rfl fl26_3 (by exact sz4) (by decide) rfl) ?_)
   (refine aqR (op_load_ptr1 rfl rfl rfl rfl ag4 rfl rfl) ?_)
   refine aqP (op_move rfl rfl) ?_
   refine' aqAnd' [_, _, _, _] [74,75,76,77] rfl rfl rfl rfl rfl rfl rfl rfl rfl rfl rfl rfl (fun hb => ?_) ?_; rotate_left
   ·
    (try simp only [hcS] at hb)
    (refine aqP (op_fa_ptr rfl rfl rfl fl26_6 (by exact sz24) (by decide) rfl) ?_)
    (refine aqR (op_load_ptr1 rfl rfl rfl rfl ag24 rfl rfl) ?_)
    refine aqP (op_len_ro (n := h.log.length) rfl rfl Try.underlying24 (.inr (.inl ⟨_, rfl, by simp⟩))) ?_
    (refine aqP (op_eql rfl rfl rfl) ?_)
    (refine aqSeg rfl rfl rfl ?_; repeat (first | exact fun _ _ => rfl | refine upd_out rfl ?_))
   simp only [nA]
   (refine aqSeg rfl rfl rfl ?_; repeat (first | exact fun _ _ => rfl | refine upd_out rfl ?_ | refine era_out rfl ?_))
  simp only [nA]
  refine AQ.nil ?_
  (refine hK _ ?_; clear hK K; (skip))
  refine AW.cond rfl rfl rfl (fun hc => ?_) (fun hc => ?_)
  ·
   have hc5 := hc
   (refine AW.seq_k ?_; intro K hK)
   refine AW.region ?_
   refine awP (op_move rfl rfl) ?_
   refine awJ (op_valS (b := false) rfl rfl en58 (C58) (RL.cons (by exact View.same rfl) (RL.nil)) rfl (fun h => by cases h) rfl rfl) ?_; (simp only [nA, Nat.reduceEqDiff, ↓reduceIte])
   refine awP (op_extract rfl rfl rfl) ?_
   refine awP (op_extract rfl rfl rfl) ?_
   refine awP (op_extract rfl rfl rfl) ?_
   refine awJ (op_store rfl rfl rfl rfl rfl rfl sz26 rfl (bl rfl) rfl) ?_; (simp only [nA, Nat.reduceBEq, Nat.reduceEqDiff, ↓reduceIte])
   refine awJ (op_store rfl rfl rfl rfl rfl rfl sz33 rfl (bl rfl) rfl) ?_; (simp only [nA, Nat.reduceBEq, Nat.reduceEqDiff, ↓reduceIte])
   refine awP (op_assign rfl rfl) ?_
   refine AWL.nil ?_
   (refine hK _ ?_; clear hK K; (simp only [nA]))
   skip
   refine AW.ret ?_; (simp only [thenE, inBlk, Nat.reduceEqDiff, ↓reduceIte]); rw [scan_err (e := 2) (by unfold scanE; rw [if_neg g1, if_neg g2, if_neg g3, if_neg g4, if_pos hc5]) (by decide)]; exact RQ.of0 rfl (.cell (bl rfl) rfl rfl rfl ag26 sz26 (bl rfl) rfl rfl (.cell (bl rfl) rfl rfl rfl ag33 sz33 (bl rfl) rfl rfl (.tmp (bl rfl) rfl rfl .nil)))
  have hc5 := hc; have g5 : ¬ ((decide (h.next = 1048576) || (h.offline && decide ((h.log.length : Int) = 60))) = true) := (by rw [show (decide (h.next = 1048576) || (h.offline && decide ((h.log.length : Int) = 60))) = false from hc5]; decide)
  refine AW.skip ?_
  (refine hK _ ?_; clear hK K; (skip))
  refine AW.join (ι := Unit) (fun _ => [(1, .v (.int .i64 k)), (3, .v (.int .i64 n)), (4, .v (.int .i64 t)), (5, .ptr 0 1 0 0), (7, .ptr 1 2 0 0), (10, .ptr 2 3 0 0), (11, .ptr 3 4 0 0)]) (fun _ => ⟨[(1, .own 26 [h.av]), (2, .own 31 [p.av]), (3, .own 26 [[.v (.int .i64 0), .v (.int .i64 0), .v (.int .i64 0), .v (.bool false), .v (.slice none 0 0), .v (.slice none 0 0), .v (.slice none 0 0)]]), (4, .own 33 [zeroO.av])], 5⟩) (fun _ => scanE h k p n t = 0) ?_ ?_
  ·
   (refine AW.seq_k ?_; intro K hK)
   refine AW.region (AWL.quiet ?_)
   (refine aqP (op_fa_ptr rfl rfl rfl fl26_3 (by exact sz4) (by decide) rfl) ?_)
   (refine aqR (op_load_ptr1 rfl rfl rfl rfl ag4 rfl rfl) ?_)
   refine aqP (op_move rfl rfl) ?_
   refine' aqAnd' [_, _] [88,89] rfl rfl rfl rfl rfl rfl rfl rfl rfl rfl rfl rfl (fun hb => ?_) ?_; rotate_left
   ·
    (try simp only [hcS] at hb)
    refine aqP (op_move rfl rfl) ?_
    (refine aqP (op_eql rfl rfl rfl) ?_)
    (refine aqSeg rfl rfl rfl ?_; repeat (first | exact fun _ _ => rfl | refine upd_out rfl ?_))
   simp only [nA]
   refine AQ.nil ?_
   (refine hK _ ?_; clear hK K; (simp only [nA, Nat.reduceBEq, Nat.reduceEqDiff, ↓reduceIte, Nat.reduceAdd, Nat.reduceSub]))
   refine AW.cond rfl rfl rfl (fun hc => ?_) (fun hc => ?_)
   ·
    have hc6 := hc
    (refine AW.seq_k ?_; intro K hK)
    refine AW.region ?_
    (refine awR (op_load_ptr rfl rfl rfl rfl ag26 sz26 (bl rfl) rfl) ?_)
    (refine awR (op_load_ptr rfl rfl rfl rfl ag31 sz31 (bl rfl) rfl) ?_)
    refine awP (op_move rfl rfl) ?_
    refine awJ (OpQ.j (op_callQ (b := true) rfl en59 (C59 (h := h) (p := p) (n := n) hs) (RL.cons (by exact View.same rfl) (RL.cons (by exact View.same rfl) (RL.cons (by exact View.same rfl) (RL.nil)))) rfl)) ?_; (simp only [nA, Nat.reduceEqDiff, ↓reduceIte])
    refine awP (op_assign rfl rfl) ?_
    refine AWL.nil ?_
    (refine hK _ ?_; clear hK K; (simp only [nA]))
    (refine AW.seq_k ?_; intro K hK)
    refine AW.region ?_
    refine awP (op_move rfl rfl) ?_
    (refine awP (op_neq rfl rfl rfl) ?_)
    refine AWL.nil ?_
    (refine hK _ ?_; clear hK K; (simp only [nA]))
    refine AW.cond rfl rfl rfl (fun hc => ?_) (fun hc => ?_)
    ·
     have hc7 := hc
     (refine AW.seq_k ?_; intro K hK)
     refine AW.region ?_
     refine awP (op_move rfl rfl) ?_
     refine awP (op_move rfl rfl) ?_
     refine awJ (op_valS (b := false) rfl rfl en58 (C58) (RL.cons (by exact View.same rfl) (RL.nil)) rfl (fun h => by cases h) rfl rfl) ?_; (simp only [nA, Nat.reduceEqDiff, ↓reduceIte])
     refine awP (op_extract rfl rfl rfl) ?_
     refine awP (op_extract rfl rfl rfl) ?_
     refine awP (op_extract rfl rfl rfl) ?_
     refine awJ (op_store rfl rfl rfl rfl rfl rfl sz26 rfl (bl rfl) rfl) ?_; (simp only [nA, Nat.reduceBEq, Nat.reduceEqDiff, ↓reduceIte])
     refine awJ (op_store rfl rfl rfl rfl rfl rfl sz33 rfl (bl rfl) rfl) ?_; (simp only [nA, Nat.reduceBEq, Nat.reduceEqDiff, ↓reduceIte])
     refine awP (op_assign rfl rfl) ?_
     refine AWL.nil ?_
     (refine hK _ ?_; clear hK K; (simp only [nA]))
     skip
     refine AW.ret ?_; (simp only [thenE, inBlk, Nat.reduceEqDiff, ↓reduceIte]); rw [scan_err (e := loadErr h p n) (by unfold scanE; rw [if_neg g1, if_neg g2, if_neg g3, if_neg g4, if_neg g5, if_pos hc6]) (by simpa using hc7)]; exact RQ.of0 rfl (.cell (bl rfl) rfl rfl rfl ag26 sz26 (bl rfl) rfl rfl (.cell (bl rfl) rfl rfl rfl ag33 sz33 (bl rfl) rfl rfl (.tmp (bl rfl) rfl rfl .nil)))
    have hc7 := hc
    refine AW.skip ?_
    refine ⟨(), (by unfold scanE; rw [if_neg g1, if_neg g2, if_neg g3, if_neg g4, if_neg g5, if_pos hc6]; simpa using hc7), ⟨rfl, rfl, rfl, rfl, rfl, rfl, rfl, trivial⟩, rfl, rfl⟩
   have hc6 := hc; have g6 : ¬ ((h.offline && decide (k = 1)) = true) := (by rw [show (h.offline && decide (k = 1)) = false from hc6]; decide)
   refine AW.skip ?_
   refine ⟨(), (by unfold scanE; rw [if_neg g1, if_neg g2, if_neg g3, if_neg g4, if_neg g5, if_neg g6]), ⟨rfl, rfl, rfl, rfl, rfl, rfl, rfl, trivial⟩, rfl, rfl⟩
  intro _ ρ hE; simp only [updL]; have hv := val_parts (scan_val hE); have hnx := num_next hv.1; have hll := hs.l; have hcn : (copyH h).next = h.next := rfl
  (refine AW.seq_k ?_; intro K hK)
  refine AW.region ?_
  refine awP (op_move rfl rfl) ?_
  (refine awP (op_fa_ptr rfl rfl rfl fl26_0 (by exact sz3) (by decide) rfl) ?_)
  (refine awR (op_load_ptr1 rfl rfl rfl rfl ag3 rfl rfl) ?_)
  (refine awP (op_fa_ptr rfl rfl rfl fl26_1 (by exact sz3) (by decide) rfl) ?_)
  (refine awR (op_load_ptr1 rfl rfl rfl rfl ag3 rfl rfl) ?_)
  refine awP (op_move rfl rfl) ?_
  refine awP (op_move rfl rfl) ?_
  (refine awR (op_load_ptr rfl rfl rfl rfl ag31 sz31 (bl rfl) rfl) ?_)
  refine awP (op_build2 (xs := [_, _, _, _, _, _, _, _, _, _]) rfl pl33 ze33 [(0, [_]), (1, [_]), (2, [_]), (3, [_]), (4, [_]), (5, [_, _, _, _, _])] rfl rfl rfl) ?_
  refine awJ (op_alloc rfl ze33 rfl) ?_; (simp only [nA, Nat.reduceBEq, Nat.reduceEqDiff, ↓reduceIte])
  refine awJ (op_store rfl rfl rfl rfl rfl rfl sz33 rfl (bl rfl) rfl) ?_; (simp only [nA, Nat.reduceBEq, Nat.reduceEqDiff, ↓reduceIte])
  refine AWL.nil ?_
  (refine hK _ ?_; clear hK K; (skip))
  (refine AW.seq_k ?_; intro K hK)
  refine AW.region ?_
  (refine awR (op_load_ptr rfl rfl rfl rfl ag26 sz26 (bl rfl) rfl) ?_)
  refine awJ (op_call (b := false) rfl en60 (C60 (h := h) hs) (RL.cons (by exact View.same rfl) (RL.nil)) rfl (fun h => by cases h) rfl rfl) ?_; (simp only [nA, Nat.reduceBEq, Nat.reduceEqDiff, ↓reduceIte, Nat.reduceAdd, Nat.reduceSub])
  refine awJ (op_alloc rfl ze26 rfl) ?_; (simp only [nA, Nat.reduceBEq, Nat.reduceEqDiff, ↓reduceIte])
  refine awJ (op_store rfl rfl rfl rfl rfl rfl sz26 rfl (bl rfl) rfl) ?_; (simp only [nA, Nat.reduceBEq, Nat.reduceEqDiff, ↓reduceIte])
  refine AWL.nil ?_
  (refine hK _ ?_; clear hK K; (skip))
  (refine AW.seq_k ?_; intro K hK)
  refine AW.region ?_
  (refine awP (op_fa_ptr rfl rfl rfl fl26_1 (by exact sz3) (by decide) rfl) ?_)
  (refine awR (op_load_ptr1 rfl rfl rfl rfl ag3 rfl rfl) ?_)
  (refine awP (op_addi rfl rfl rfl (by omega)) ?_)
  (refine awP (op_fa_ptr rfl rfl rfl fl26_1 (by exact sz3) (by decide) rfl) ?_)
  refine awJ (op_store rfl rfl rfl rfl rfl rfl sz3 rfl (bl rfl) rfl) ?_; (simp only [nA, ↓reduceIte])
  refine AWL.nil ?_
  (refine hK _ ?_; clear hK K; (skip))
  (refine AW.seq_k ?_; intro K hK)
  refine AW.region ?_
  refine awP (op_move rfl rfl) ?_
  (refine awP (op_fa_ptr rfl rfl rfl fl26_2 (by exact sz3) (by decide) rfl) ?_)
  refine awJ (op_store rfl rfl rfl rfl rfl rfl sz3 rfl (bl rfl) rfl) ?_; (simp only [nA, ↓reduceIte])
  refine AWL.nil ?_
  (refine hK _ ?_; clear hK K; (skip))
  (refine AW.seq_k ?_; intro K hK)
  (refine AW.seq_k ?_; intro K hK)
  refine AW.region ?_
  (refine awP (op_fa_ptr rfl rfl rfl fl26_3 (by exact sz4) (by decide) rfl) ?_)
  (refine awR (op_load_ptr1 rfl rfl rfl rfl ag4 rfl rfl) ?_)
  refine AWL.nil ?_
  (refine hK _ ?_; clear hK K; (simp only [nA, Nat.reduceBEq, Nat.reduceEqDiff, ↓reduceIte, Nat.reduceAdd, Nat.reduceSub]))
  refine AW.cond rfl rfl rfl (fun hc => ?_) (fun hc => ?_)
  ·
   have hc8 := hc; have ho : h.offline = true := hc8
   (refine AW.seq_k ?_; intro K hK)
   refine AW.region ?_
   (refine awP (op_fa_ptr rfl rfl rfl fl26_6 (by exact sz24) (by decide) rfl) ?_)
   (refine awR (op_load_ptr1 rfl rfl rfl rfl ag24 rfl rfl) ?_)
   refine awP (op_len_ro (n := h.log.length) rfl rfl Try.underlying24 (.inr (.inl ⟨_, rfl, by simp⟩))) ?_
   refine awP (op_assign rfl rfl) ?_
   refine AWL.nil ?_
   (refine hK _ ?_; clear hK K; (simp only [nA]))
   refine AW.adk 9 (FixL [(0, 1, .own 26 [h.av]), (4, 5, .own 33 [((newOp h k p n t)).av]), (5, 6, .own 26 [[.v (.int .i64 h.number), .v (.int .i64 (h.next + 1)), .v (.int .i64 t), .v (.bool h.offline), .ro (h.grants.map Grant.av), .ro ((h.conts.map bareC).map Container.av), .ro (h.log.map Op.av)]])]) mix rfl ?_
   (refine akP 0 rfl (fun T' ok => op_fa_ptr rfl rfl (by exact ok.1) fl26_6 (by exact sz24) (by decide) rfl) (by exact ⟨rfl, rfl, rfl, trivial⟩) (by kernel_rfl) (by kernel_rfl) (by kernel_rfl) ?_); (simp only [nA, Nat.reduceBEq, Nat.reduceEqDiff, ↓reduceIte])
   (refine akR 1 rfl (fun T' ok => op_load_ptr1 rfl rfl (by exact ok.1) rfl ag24 rfl rfl) (by exact ⟨rfl, rfl, rfl, trivial⟩) (by kernel_rfl) (by kernel_rfl) (by kernel_rfl) ?_); (simp only [nA, Nat.reduceBEq, Nat.reduceEqDiff, ↓reduceIte, Nat.reduceAdd, Nat.reduceSub])
   refine akP 2 rfl (fun T' ok => op_move rfl rfl) (by exact ⟨rfl, rfl, rfl, trivial⟩) (by kernel_rfl) (by kernel_rfl) (by kernel_rfl) ?_; (simp only [nA, ↓reduceIte])
   refine akP 3 rfl (fun T' ok => op_move rfl rfl) (by exact ⟨rfl, rfl, rfl, trivial⟩) (by kernel_rfl) (by kernel_rfl) (by kernel_rfl) ?_; (simp only [nA, ↓reduceIte])
   refine akP 4 rfl (fun T' ok => op_slice_full h.log.length rfl (.inl rfl) rfl rfl (by simp) Try.underlying24 sz33 (opv_len _) (es' := h.log.map Op.av) (List.take_of_length_le (by simp))) (by exact ⟨rfl, rfl, rfl, trivial⟩) (by kernel_rfl) (by kernel_rfl) (by kernel_rfl) ?_; (simp only [nA, Nat.reduceBEq, Nat.reduceEqDiff, ↓reduceIte, Nat.reduceAdd, Nat.reduceSub])
   (refine akR 5 rfl (fun T' ok => op_load_ptr rfl rfl (by exact ok.2.1) rfl ag33 sz33 (bl rfl) rfl) (by exact ⟨rfl, rfl, rfl, trivial⟩) (by kernel_rfl) (by kernel_rfl) (by kernel_rfl) ?_); (simp only [nA, Nat.reduceBEq, Nat.reduceEqDiff, ↓reduceIte, Nat.reduceAdd, Nat.reduceSub])
   refine akF 6 rfl (fun T' ok => OpJ.frz (op_buildSlice rfl [(0, ((newOp h k p n t)).av)] [((newOp h k p n t)).av] Try.underlying24 ze33 rfl (by simp) rfl (by simp) rfl (bl rfl) (by simp [maxLen])) (opv_flat [(newOp h k p n t)]) rfl) (by exact ⟨rfl, rfl, rfl, trivial⟩) (by kernel_rfl) (by kernel_rfl) (by kernel_rfl) ?_; (simp only [nA, Nat.reduceBEq, Nat.reduceEqDiff, ↓reduceIte, Nat.reduceAdd, Nat.reduceSub])
   refine akF 7 rfl (fun T' ok => op_app_rof (sz := 10) (es := h.log.map Op.av) (rows := [((newOp h k p n t)).av]) rfl rfl rfl .ro Try.underlying24 ze33 (by decide) (opv_len _) (opv_len [(newOp h k p n t)]) (by simp; omega) (by decide) (es' := (h.log ++ [(newOp h k p n t)]).map Op.av) (by simp)) (by exact ⟨rfl, rfl, rfl, trivial⟩) (by kernel_rfl) (by kernel_rfl) (by kernel_rfl) ?_; (simp only [nA, Nat.reduceBEq, Nat.reduceEqDiff, ↓reduceIte, Nat.reduceAdd, Nat.reduceSub])
   (refine akP 8 rfl (fun T' ok => op_fa_ptr rfl rfl (by exact ok.2.2.1) fl26_6 (by exact sz24) (by decide) rfl) (by exact ⟨rfl, rfl, rfl, trivial⟩) (by kernel_rfl) (by kernel_rfl) (by kernel_rfl) ?_); (simp only [nA, Nat.reduceBEq, Nat.reduceEqDiff, ↓reduceIte, Nat.reduceAdd, Nat.reduceSub])
   refine akL 9 rfl (op_store rfl rfl rfl rfl rfl rfl sz24 rfl (bl rfl) rfl) (by kernel_rfl) (by decide) ?_; (simp only [nA, ↓reduceIte])
   refine akDone (by kernel_rfl) ?_
   (refine hK _ ?_; clear hK K; (skip))
   (refine AW.seq_k ?_; intro K hK)
   refine AW.ad [(4, 5, .own 33 [((newOp h k p n t)).av]), (5, 6, .own 26 [[.v (.int .i64 h.number), .v (.int .i64 (h.next + 1)), .v (.int .i64 t), .v (.bool h.offline), .ro (h.grants.map Grant.av), .ro ((h.conts.map bareC).map Container.av), .ro ((h.log ++ [(newOp h k p n t)]).map Op.av)]])] mix rfl ?_
   (refine adR 0 rfl (fun T' ok => op_load_ptr rfl rfl (by exact ok.2.1) rfl ag26 sz26 (bl rfl) rfl) (by exact ⟨rfl, rfl, trivial⟩) (by kernel_rfl) (by kernel_rfl) ?_)
   (refine adR 1 rfl (fun T' ok => op_load_ptr rfl rfl (by exact ok.1) rfl ag33 sz33 (bl rfl) rfl) (by exact ⟨rfl, rfl, trivial⟩) (by kernel_rfl) (by kernel_rfl) ?_)
   refine adJ 2 rfl (op_store rfl rfl rfl rfl rfl rfl sz26 rfl (bl rfl) rfl) (by kernel_rfl) (by exact ⟨rfl, rfl, trivial⟩) ?_; (simp only [nA, Nat.reduceBEq, Nat.reduceEqDiff, ↓reduceIte])
   refine adJ 3 rfl (op_store rfl rfl rfl rfl rfl rfl sz33 rfl (bl rfl) rfl) (by kernel_rfl) (by exact ⟨rfl, rfl, trivial⟩) ?_; (simp only [nA, Nat.reduceBEq, Nat.reduceEqDiff, ↓reduceIte, Nat.reduceAdd, Nat.reduceSub])
   refine adP 4 rfl (fun T' ok => op_assign rfl rfl) (by exact ⟨rfl, rfl, trivial⟩) (by kernel_rfl) (by kernel_rfl) ?_
   refine adDone (by kernel_rfl) ?_
   (refine hK _ ?_; clear hK K; (simp only [nA, Nat.reduceBEq, Nat.reduceEqDiff, ↓reduceIte, Nat.reduceAdd, Nat.reduceSub]))
   skip
   refine AW.ret ?_; rw [scan_on hE ho]; exact RQ.of0 rfl (.cell (bl rfl) rfl rfl rfl ag26 sz26 (bl rfl) rfl rfl (.cell (bl rfl) rfl rfl rfl ag33 sz33 (bl rfl) rfl rfl (.tmp (bl rfl) rfl rfl .nil)))
  have hc8 := hc; have ho : h.offline = false := hc8
  refine AW.skip ?_
  (refine hK _ ?_; clear hK K; (skip))
  (refine AW.seq_k ?_; intro K hK)
  refine AW.ad [(4, 5, .own 33 [((newOp h k p n t)).av]), (5, 6, .own 26 [[.v (.int .i64 h.number), .v (.int .i64 (h.next + 1)), .v (.int .i64 t), .v (.bool h.offline), .ro (h.grants.map Grant.av), .ro ((h.conts.map bareC).map Container.av), .ro (h.log.map Op.av)]])] mix rfl ?_
  (refine adR 0 rfl (fun T' ok => op_load_ptr rfl rfl (by exact ok.2.1) rfl ag26 sz26 (bl rfl) rfl) (by exact ⟨rfl, rfl, trivial⟩) (by kernel_rfl) (by kernel_rfl) ?_)
  (refine adR 1 rfl (fun T' ok => op_load_ptr rfl rfl (by exact ok.1) rfl ag33 sz33 (bl rfl) rfl) (by exact ⟨rfl, rfl, trivial⟩) (by kernel_rfl) (by kernel_rfl) ?_)
  refine adJ 2 rfl (op_store rfl rfl rfl rfl rfl rfl sz26 rfl (bl rfl) rfl) (by kernel_rfl) (by exact ⟨rfl, rfl, trivial⟩) ?_; (simp only [nA, Nat.reduceBEq, Nat.reduceEqDiff, ↓reduceIte])
  refine adJ 3 rfl (op_store rfl rfl rfl rfl rfl rfl sz33 rfl (bl rfl) rfl) (by kernel_rfl) (by exact ⟨rfl, rfl, trivial⟩) ?_; (simp only [nA, Nat.reduceBEq, Nat.reduceEqDiff, ↓reduceIte, Nat.reduceAdd, Nat.reduceSub])
  refine adP 4 rfl (fun T' ok => op_assign rfl rfl) (by exact ⟨rfl, rfl, trivial⟩) (by kernel_rfl) (by kernel_rfl) ?_
  refine adDone (by kernel_rfl) ?_
  (refine hK _ ?_; clear hK K; (simp only [nA, Nat.reduceBEq, Nat.reduceEqDiff, ↓reduceIte, Nat.reduceAdd, Nat.reduceSub]))
  skip
  refine AW.ret ?_; rw [scan_off hE ho]; exact RQ.of0 rfl (.cell (bl rfl) rfl rfl rfl ag26 sz26 (bl rfl) rfl rfl (.cell (bl rfl) rfl rfl rfl ag33 sz33 (bl rfl) rfl rfl (.tmp (bl rfl) rfl rfl .nil)))
end Go.Proofs.Ytdnofpggdddimaa
namespace Go.Proofs.Ytdnofpggdddimaa
open Go.RowKit
set_option linter.unusedSimpArgs false
set_option linter.unusedVariables false
set_option maxRecDepth 100000
theorem bare_id {l : List Container} (h : empB l = true) : l.map bareC = l := by
  unfold empB at h
  rw [Bool.and_eq_true, List.all_eq_true] at h
  conv => rhs; rw [← List.map_id l]
  refine List.map_congr_left fun c hc => ?_
  have := h.1 c hc
  obtain ⟨a1, a2, a3, a4, a5, a6, a7, a8⟩ := c
  have h8 : a8 = [] := List.eq_nil_of_length_eq_zero (by simpa using this)
  subst h8
  rfl
theorem C27 {h : Hand} {k n t : Int} {p : Piece} (hs : h.Sm) : Fn Try.prog 27 [] [.agg h.av, .v (.int .i64 k), .agg p.av, .v (.int .i64 n), .v (.int .i64 t)] [.agg (scanR h k p n t).1.av, .agg (scanR h k p n t).2.1.av, .v (.int .i64 (scanR h k p n t).2.2)] [] := by
  refine Spec.body Try.func27 rfl Try.ntmps27 (by simp) rfl ?_; intro S0 own0 v0 w0
  (refine AW.seq_k ?_; intro K hK)
  refine AW.region ?_
  refine awJ (op_box rfl rfl rfl sz26 rfl) ?_; (simp only [nA, Nat.reduceBEq, Nat.reduceEqDiff, ↓reduceIte])
  refine awJ (op_box rfl rfl rfl sz31 rfl) ?_; (simp only [nA, Nat.reduceBEq, Nat.reduceEqDiff, ↓reduceIte])
  refine awJ (op_alloc rfl ze26 rfl) ?_; (simp only [nA, Nat.reduceBEq, Nat.reduceEqDiff, ↓reduceIte])
  refine awJ (op_alloc rfl ze33 rfl) ?_; (simp only [nA, Nat.reduceBEq, Nat.reduceEqDiff, ↓reduceIte])
  refine awP (op_assign rfl rfl) ?_
  refine AWL.nil ?_
  (refine hK _ ?_; clear hK K; (simp only [nA, Nat.reduceBEq, Nat.reduceEqDiff, ↓reduceIte, Nat.reduceAdd, Nat.reduceSub]))
  (refine AW.seq_k ?_; intro K hK)
  refine AW.region ?_
  (refine awR (op_load_ptr rfl rfl rfl rfl ag26 sz26 (bl rfl) rfl) ?_)
  refine awP (op_move rfl rfl) ?_
  (refine awR (op_load_ptr rfl rfl rfl rfl ag31 sz31 (bl rfl) rfl) ?_)
  refine awP (op_move rfl rfl) ?_
  refine awP (op_move rfl rfl) ?_
  refine awJ (OpQ.j (op_callQ (b := true) rfl en61 (C61 (h := h) (k := k) (n := n) (t := t) (p := p) hs) (RL.cons (by exact View.same rfl) (RL.cons (by exact View.same rfl) (RL.cons (by exact View.same rfl) (RL.cons (by exact View.same rfl) (RL.cons (by exact View.same rfl) (RL.nil)))))) rfl)) ?_; (simp only [nA, ↓reduceIte])
  refine awP (op_assign rfl rfl) ?_
  refine AWL.nil ?_
  (refine hK _ ?_; clear hK K; (simp only [nA]))
  (refine AW.seq_k ?_; intro K hK)
  (refine AW.seq_k ?_; intro K hK)
  refine AW.region ?_
  refine awP (op_move rfl rfl) ?_
  (refine awP (op_neq rfl rfl rfl) ?_)
  refine AWL.nil ?_
  (refine hK _ ?_; clear hK K; (simp only [nA]))
  refine AW.cond rfl rfl rfl (fun hc => ?_) (fun hc => ?_)
  ·
   have hc1 := hc; have hE : scanE h k p n t ≠ 0 := (by simpa using hc1)
   (refine AW.seq_k ?_; intro K hK)
   refine AW.region ?_
   refine awP (op_build2 (xs := [.v (.int .i64 0), .v (.int .i64 0), .v (.int .i64 0), .v (.bool false), .v (.slice none 0 0), .v (.slice none 0 0), .v (.slice none 0 0)]) rfl pl26 ze26 [] rfl rfl rfl) ?_
   refine awP (op_build2 (xs := [.v (.int .i64 0), .v (.int .i64 0), .v (.int .i64 0), .v (.int .i64 0), .v (.int .i64 0), .v (.int .i64 0), .v (.int .i64 0), .v (.int .i64 0), .v (.int .i64 0), .v (.int .i64 0)]) rfl pl33 ze33 [] rfl rfl rfl) ?_
   refine awP (op_move rfl rfl) ?_
   refine awJ (op_store rfl rfl rfl rfl rfl rfl sz26 rfl (bl rfl) rfl) ?_; (simp only [nA, Nat.reduceBEq, Nat.reduceEqDiff, ↓reduceIte])
   refine awJ (op_store rfl rfl rfl rfl rfl rfl sz33 rfl (bl rfl) rfl) ?_; (simp only [nA, Nat.reduceBEq, Nat.reduceEqDiff, ↓reduceIte])
   refine awP (op_assign rfl rfl) ?_
   refine AWL.nil ?_
   (refine hK _ ?_; clear hK K; (simp only [nA]))
   refine AW.gh (Gh.cell0 (r := 2) (A := none) (c := 0) (row := [.v (.int .i64 0), .v (.int .i64 0), .v (.int .i64 0), .v (.bool false), .v (.slice none 0 0), .v (.slice none 0 0), .v (.slice none 0 0)]) 0 4 rfl rfl rfl (by decide) rfl) ?_; refine AW.gh (Gh.cell0 (r := 2) (A := none) (c := 0) (row := [.v (.int .i64 0), .v (.int .i64 0), .v (.int .i64 0), .v (.bool false), .ro [], .v (.slice none 0 0), .v (.slice none 0 0)]) 0 5 rfl rfl rfl (by decide) rfl) ?_; refine AW.gh (Gh.cell0 (r := 2) (A := none) (c := 0) (row := [.v (.int .i64 0), .v (.int .i64 0), .v (.int .i64 0), .v (.bool false), .ro [], .ro [], .v (.slice none 0 0)]) 0 6 rfl rfl rfl (by decide) rfl) ?_; (simp only [nA, Nat.reduceBEq, Nat.reduceEqDiff, ↓reduceIte, Nat.reduceAdd, Nat.reduceSub])
   refine AW.ret ?_; (simp only [thenE, inBlk, Nat.reduceEqDiff, ↓reduceIte]); rw [scan_err (e := scanE h k p n t) rfl hE]; exact RQ.of0 rfl (.cell (bl rfl) rfl rfl rfl ag26 sz26 (bl rfl) rfl rfl (.cell (bl rfl) rfl rfl rfl ag33 sz33 (bl rfl) rfl rfl (.tmp (bl rfl) rfl rfl .nil)))
  have hc1 := hc; have hE : scanE h k p n t = 0 := (by simpa using hc1); have hv := val_parts (scan_val hE); have hnx := num_next hv.1; have hll := hs.l; have hgl := hs.g; have hcl := hs.c
  refine AW.skip ?_
  (refine hK _ ?_; clear hK K; (skip))
  (refine AW.seq_k ?_; intro K hK)
  refine AW.region ?_
  refine awP (op_move rfl rfl) ?_
  (refine awP (op_fa_ptr rfl rfl rfl fl26_0 (by exact sz3) (by decide) rfl) ?_)
  (refine awR (op_load_ptr1 rfl rfl rfl rfl ag3 rfl rfl) ?_)
  (refine awP (op_fa_ptr rfl rfl rfl fl26_1 (by exact sz3) (by decide) rfl) ?_)
  (refine awR (op_load_ptr1 rfl rfl rfl rfl ag3 rfl rfl) ?_)
  refine awP (op_move rfl rfl) ?_
  refine awP (op_move rfl rfl) ?_
  (refine awR (op_load_ptr rfl rfl rfl rfl ag31 sz31 (bl rfl) rfl) ?_)
  refine awP (op_build2 (xs := [_, _, _, _, _, _, _, _, _, _]) rfl pl33 ze33 [(0, [_]), (1, [_]), (2, [_]), (3, [_]), (4, [_]), (5, [_, _, _, _, _])] rfl rfl rfl) ?_
  refine awJ (op_alloc rfl ze33 rfl) ?_; (simp only [nA, Nat.reduceBEq, Nat.reduceEqDiff, ↓reduceIte])
  refine awJ (op_store rfl rfl rfl rfl rfl rfl sz33 rfl (bl rfl) rfl) ?_; (simp only [nA, Nat.reduceBEq, Nat.reduceEqDiff, ↓reduceIte])
  refine AWL.nil ?_
  (refine hK _ ?_; clear hK K; (skip))
  (refine AW.seq_k ?_; intro K hK)
  refine AW.region ?_
  (refine awP (op_fa_ptr rfl rfl rfl fl26_1 (by exact sz3) (by decide) rfl) ?_)
  (refine awR (op_load_ptr1 rfl rfl rfl rfl ag3 rfl rfl) ?_)
  (refine awP (op_addi rfl rfl rfl (by omega)) ?_)
  refine awP (op_move rfl rfl) ?_
  (refine awP (op_fa_ptr rfl rfl rfl fl26_1 (by exact sz3) (by decide) rfl) ?_)
  refine awJ (op_store rfl rfl rfl rfl rfl rfl sz3 rfl (bl rfl) rfl) ?_; (simp only [nA, ↓reduceIte])
  (refine awP (op_fa_ptr rfl rfl rfl fl26_2 (by exact sz3) (by decide) rfl) ?_)
  refine awJ (op_store rfl rfl rfl rfl rfl rfl sz3 rfl (bl rfl) rfl) ?_; (simp only [nA, ↓reduceIte])
  refine AWL.nil ?_
  (refine hK _ ?_; clear hK K; (skip))
  (refine AW.seq_k ?_; intro K hK)
  refine AW.adk 9 (FixL [(0, 1, .own 26 [[.v (.int .i64 h.number), .v (.int .i64 (h.next + 1)), .v (.int .i64 t), .v (.bool h.offline), .ro (h.grants.map Grant.av), .ro (h.conts.map Container.av), .ro (h.log.map Op.av)]])]) mix rfl ?_
  (refine akP 1 rfl (fun T' ok => op_fa_ptr rfl rfl (by exact ok.1) fl26_4 (by exact sz22) (by decide) rfl) (by exact ⟨rfl, trivial⟩) (by kernel_rfl) (by kernel_rfl) (by kernel_rfl) ?_); (simp only [nA, Nat.reduceBEq, Nat.reduceEqDiff, ↓reduceIte])
  (refine akR 2 rfl (fun T' ok => op_load_ptr1 rfl rfl (by exact ok.1) rfl ag22 rfl rfl) (by exact ⟨rfl, trivial⟩) (by kernel_rfl) (by kernel_rfl) (by kernel_rfl) ?_); (simp only [nA, Nat.reduceBEq, Nat.reduceEqDiff, ↓reduceIte, Nat.reduceAdd, Nat.reduceSub])
  (refine akP 5 rfl (fun T' ok => op_fa_ptr rfl rfl (by exact ok.1) fl26_5 (by exact sz23) (by decide) rfl) (by exact ⟨rfl, trivial⟩) (by kernel_rfl) (by kernel_rfl) (by kernel_rfl) ?_); (simp only [nA, Nat.reduceBEq, Nat.reduceEqDiff, ↓reduceIte, Nat.reduceAdd, Nat.reduceSub])
  (refine akR 6 rfl (fun T' ok => op_load_ptr1 rfl rfl (by exact ok.1) rfl ag23 rfl rfl) (by exact ⟨rfl, trivial⟩) (by kernel_rfl) (by kernel_rfl) (by kernel_rfl) ?_); (simp only [nA, Nat.reduceBEq, Nat.reduceEqDiff, ↓reduceIte, Nat.reduceAdd, Nat.reduceSub])
  -- READY [0, 4]
  refine akF 0 rfl (fun T' ok => op_lit0 rfl Try.underlying22 sz75) (by exact ⟨rfl, trivial⟩) (by kernel_rfl) (by kernel_rfl) (by kernel_rfl) ?_; (simp only [nA, Nat.reduceBEq, Nat.reduceEqDiff, ↓reduceIte, Nat.reduceAdd, Nat.reduceSub])
  -- READY [3, 4]
  refine akF 3 rfl (fun T' ok => op_app_rof (sz := 9) (es := []) (rows := h.grants.map Grant.av) rfl rfl rfl .ro Try.underlying22 ze75 (by decide) (by simp) (gav_len _) (by simp; omega) (by decide) (List.nil_append _)) (by exact ⟨rfl, trivial⟩) (by kernel_rfl) (by kernel_rfl) (by kernel_rfl) ?_; (simp only [nA, Nat.reduceBEq, Nat.reduceEqDiff, ↓reduceIte, Nat.reduceAdd, Nat.reduceSub])
  (refine akP 8 rfl (fun T' ok => op_fa_ptr rfl rfl (by exact ok.1) fl26_4 (by exact sz22) (by decide) rfl) (by exact ⟨rfl, trivial⟩) (by kernel_rfl) (by kernel_rfl) (by kernel_rfl) ?_); (simp only [nA, Nat.reduceBEq, Nat.reduceEqDiff, ↓reduceIte, Nat.reduceAdd, Nat.reduceSub])
  refine akF 4 rfl (fun T' ok => op_lit0 rfl Try.underlying23 sz77) (by exact ⟨rfl, trivial⟩) (by kernel_rfl) (by kernel_rfl) (by kernel_rfl) ?_; (simp only [nA, Nat.reduceBEq, Nat.reduceEqDiff, ↓reduceIte, Nat.reduceAdd, Nat.reduceSub])
  refine akF 7 rfl (fun T' ok => op_app_rof (sz := 11) (es := []) (rows := h.conts.map Container.av) rfl rfl rfl .ro Try.underlying23 ze77 (by decide) (by simp) (conv_len _) (by simp; omega) (by decide) (List.nil_append _)) (by exact ⟨rfl, trivial⟩) (by kernel_rfl) (by kernel_rfl) (by kernel_rfl) ?_; (simp only [nA, Nat.reduceBEq, Nat.reduceEqDiff, ↓reduceIte, Nat.reduceAdd, Nat.reduceSub])
  refine akL 9 rfl (op_store rfl rfl rfl rfl rfl rfl sz22 rfl (bl rfl) rfl) (by kernel_rfl) (by decide) ?_; (simp only [nA, ↓reduceIte])
  (refine akL 10 rfl (OpP.j (op_fa_ptr rfl rfl rfl fl26_5 (by exact sz23) (by decide) rfl)) (by kernel_rfl) (by decide) ?_); (simp only [nA, Nat.reduceBEq, Nat.reduceEqDiff, ↓reduceIte, Nat.reduceAdd, Nat.reduceSub])
  refine akL 11 rfl (op_store rfl rfl rfl rfl rfl rfl sz23 rfl (bl rfl) rfl) (by kernel_rfl) (by decide) ?_; (simp only [nA, ↓reduceIte])
  refine akDone (by kernel_rfl) ?_
  (refine hK _ ?_; clear hK K; (skip))
  (refine AW.seq_k ?_; intro K hK)
  (refine AW.seq_k ?_; intro K hK)
  refine AW.region ?_
  (refine awP (op_fa_ptr rfl rfl rfl fl26_3 (by exact sz4) (by decide) rfl) ?_)
  (refine awR (op_load_ptr1 rfl rfl rfl rfl ag4 rfl rfl) ?_)
  refine AWL.nil ?_
  (refine hK _ ?_; clear hK K; (simp only [nA, Nat.reduceBEq, Nat.reduceEqDiff, ↓reduceIte, Nat.reduceAdd, Nat.reduceSub]))
  refine AW.cond rfl rfl rfl (fun hc => ?_) (fun hc => ?_)
  ·
   have hc2 := hc; have ho : h.offline = true := hc2
   refine AW.adk 8 (FixL [(0, 1, .own 26 [[.v (.int .i64 h.number), .v (.int .i64 (h.next + 1)), .v (.int .i64 t), .v (.bool h.offline), .ro (h.grants.map Grant.av), .ro (h.conts.map Container.av), .ro (h.log.map Op.av)]]), (4, 5, .own 33 [((newOp h k p n t)).av])]) mix rfl ?_
   refine akP 1 rfl (fun T' ok => op_fa_ptr rfl rfl (by exact ok.1) fl26_6 (by exact sz24) (by decide) rfl) (by exact ⟨rfl, rfl, trivial⟩) (by kernel_rfl) (by kernel_rfl) (by kernel_rfl) ?_; (simp only [nA, Nat.reduceBEq, Nat.reduceEqDiff, ↓reduceIte])
   refine akR 2 rfl (fun T' ok => op_load_ptr1 rfl rfl (by exact ok.1) rfl ag24 rfl rfl) (by exact ⟨rfl, rfl, trivial⟩) (by kernel_rfl) (by kernel_rfl) (by kernel_rfl) ?_; (simp only [nA, Nat.reduceBEq, Nat.reduceEqDiff, ↓reduceIte, Nat.reduceAdd, Nat.reduceSub])
   refine akR 4 rfl (fun T' ok => op_load_ptr rfl rfl (by exact ok.2.1) rfl ag33 sz33 (bl rfl) rfl) (by exact ⟨rfl, rfl, trivial⟩) (by kernel_rfl) (by kernel_rfl) (by kernel_rfl) ?_; (simp only [nA, Nat.reduceBEq, Nat.reduceEqDiff, ↓reduceIte, Nat.reduceAdd, Nat.reduceSub])
   refine akF 5 rfl (fun T' ok => OpJ.frz (op_buildSlice rfl [(0, ((newOp h k p n t)).av)] [((newOp h k p n t)).av] Try.underlying24 ze33 rfl (by simp) rfl (by simp) rfl (bl rfl) (by simp [maxLen])) (opv_flat [(newOp h k p n t)]) rfl) (by exact ⟨rfl, rfl, trivial⟩) (by kernel_rfl) (by kernel_rfl) (by kernel_rfl) ?_; (simp only [nA, Nat.reduceBEq, Nat.reduceEqDiff, ↓reduceIte, Nat.reduceAdd, Nat.reduceSub])
   refine akJ 0 rfl (op_buildSlice rfl [] [] Try.underlying24 ze33 rfl (by simp) rfl (by simp) rfl (bl rfl) (by simp [maxLen])) (by kernel_rfl) (by exact ⟨rfl, rfl, trivial⟩) ?_; (simp only [nA, Nat.reduceBEq, Nat.reduceEqDiff, ↓reduceIte])
   refine akJ 3 rfl (op_app (rows := h.log.map Op.av) rfl rfl rfl rfl rfl .ro Try.underlying24 ze33 (by decide) (opv_len _) (by simp; omega) (by decide) (List.nil_append _) (n := h.log.length) (by simp)) (by kernel_rfl) (by exact ⟨rfl, rfl, trivial⟩) ?_; (simp only [nA, Nat.reduceBEq, Nat.reduceEqDiff, ↓reduceIte])
   refine akJ 6 rfl (op_app (rows := [((newOp h k p n t)).av]) rfl rfl rfl rfl (by simp) .ro Try.underlying24 ze33 (by decide) (opv_len [(newOp h k p n t)]) (by simp; omega) (by decide) (es' := (h.log ++ [(newOp h k p n t)]).map Op.av) (by simp) (n := h.log.length + 1) (by simp)) (by kernel_rfl) (by exact ⟨rfl, rfl, trivial⟩) ?_; (simp only [nA, Nat.reduceBEq, Nat.reduceEqDiff, ↓reduceIte])
   refine akP 7 rfl (fun T' ok => op_fa_ptr rfl rfl (by exact ok.1) fl26_6 (by exact sz24) (by decide) rfl) (by exact ⟨rfl, rfl, trivial⟩) (by kernel_rfl) (by kernel_rfl) (by kernel_rfl) ?_; (simp only [nA, Nat.reduceBEq, Nat.reduceEqDiff, ↓reduceIte, Nat.reduceAdd, Nat.reduceSub])
   refine akL 8 rfl (op_store_nest (r := 0) (q := 5) rfl rfl rfl rfl (row := [.v (.int .i64 h.number), .v (.int .i64 (h.next + 1)), .v (.int .i64 t), .v (.bool h.offline), .ro (h.grants.map Grant.av), .ro (h.conts.map Container.av), .ro (h.log.map Op.av)]) rfl sz24 rfl (by decide) (by simp) (by simp) rfl) (by kernel_rfl) (by decide) ?_; (simp only [nA, Nat.reduceBEq, Nat.reduceEqDiff, ↓reduceIte, Nat.reduceAdd, Nat.reduceSub])
   refine akDone (by kernel_rfl) ?_
   (refine hK _ ?_; clear hK K; (skip))
   (refine AW.seq_k ?_; intro K hK)
   refine AW.gh (Gh.freezeC (r := 0) (row := [.v (.int .i64 h.number), .v (.int .i64 (h.next + 1)), .v (.int .i64 t), .v (.bool h.offline), .ro (h.grants.map Grant.av), .ro (h.conts.map Container.av), .own 33 ((h.log ++ [(newOp h k p n t)]).map Op.av)]) 0 6 rfl rfl rfl (opv_flat _) rfl) ?_; (simp only [nA, Nat.reduceBEq, Nat.reduceEqDiff, ↓reduceIte, Nat.reduceAdd, Nat.reduceSub]); refine AW.ad [(0, 1, .own 26 [[.v (.int .i64 h.number), .v (.int .i64 (h.next + 1)), .v (.int .i64 t), .v (.bool h.offline), .ro (h.grants.map Grant.av), .ro (h.conts.map Container.av), .ro ((h.log ++ [(newOp h k p n t)]).map Op.av)]]), (4, 5, .own 33 [((newOp h k p n t)).av])] mix rfl ?_
   (refine adR 0 rfl (fun T' ok => op_load_ptr rfl rfl (by exact ok.1) rfl ag26 sz26 (bl rfl) rfl) (by exact ⟨rfl, rfl, trivial⟩) (by kernel_rfl) (by kernel_rfl) ?_)
   (refine adR 1 rfl (fun T' ok => op_load_ptr rfl rfl (by exact ok.2.1) rfl ag33 sz33 (bl rfl) rfl) (by exact ⟨rfl, rfl, trivial⟩) (by kernel_rfl) (by kernel_rfl) ?_)
   refine adJ 2 rfl (op_store rfl rfl rfl rfl rfl rfl sz26 rfl (bl rfl) rfl) (by kernel_rfl) (by exact ⟨rfl, rfl, trivial⟩) ?_; (simp only [nA, Nat.reduceBEq, Nat.reduceEqDiff, ↓reduceIte])
   refine adJ 3 rfl (op_store rfl rfl rfl rfl rfl rfl sz33 rfl (bl rfl) rfl) (by kernel_rfl) (by exact ⟨rfl, rfl, trivial⟩) ?_; (simp only [nA, Nat.reduceBEq, Nat.reduceEqDiff, ↓reduceIte])
   refine adP 4 rfl (fun T' ok => op_assign rfl rfl) (by exact ⟨rfl, rfl, trivial⟩) (by kernel_rfl) (by kernel_rfl) ?_
   refine adDone (by kernel_rfl) ?_
   (refine hK _ ?_; clear hK K; (simp only [nA, Nat.reduceBEq, Nat.reduceEqDiff, ↓reduceIte, Nat.reduceAdd, Nat.reduceSub]))
   skip
   refine AW.ret ?_; rw [scan_on hE ho, bare_id hv.2.2.2.1]; exact RQ.of0 rfl (.cell (bl rfl) rfl rfl rfl ag26 sz26 (bl rfl) rfl rfl (.cell (bl rfl) rfl rfl rfl ag33 sz33 (bl rfl) rfl rfl (.tmp (bl rfl) rfl rfl .nil)))
  have hc2 := hc; have ho : h.offline = false := hc2
  refine AW.skip ?_
  (refine hK _ ?_; clear hK K; (skip))
  (refine AW.seq_k ?_; intro K hK)
  refine AW.ad [(0, 1, .own 26 [[.v (.int .i64 h.number), .v (.int .i64 (h.next + 1)), .v (.int .i64 t), .v (.bool h.offline), .ro (h.grants.map Grant.av), .ro (h.conts.map Container.av), .ro (h.log.map Op.av)]]), (4, 5, .own 33 [((newOp h k p n t)).av])] mix rfl ?_
  (refine adR 0 rfl (fun T' ok => op_load_ptr rfl rfl (by exact ok.1) rfl ag26 sz26 (bl rfl) rfl) (by exact ⟨rfl, rfl, trivial⟩) (by kernel_rfl) (by kernel_rfl) ?_)
  (refine adR 1 rfl (fun T' ok => op_load_ptr rfl rfl (by exact ok.2.1) rfl ag33 sz33 (bl rfl) rfl) (by exact ⟨rfl, rfl, trivial⟩) (by kernel_rfl) (by kernel_rfl) ?_)
  refine adJ 2 rfl (op_store rfl rfl rfl rfl rfl rfl sz26 rfl (bl rfl) rfl) (by kernel_rfl) (by exact ⟨rfl, rfl, trivial⟩) ?_; (simp only [nA, Nat.reduceBEq, Nat.reduceEqDiff, ↓reduceIte])
  refine adJ 3 rfl (op_store rfl rfl rfl rfl rfl rfl sz33 rfl (bl rfl) rfl) (by kernel_rfl) (by exact ⟨rfl, rfl, trivial⟩) ?_; (simp only [nA, Nat.reduceBEq, Nat.reduceEqDiff, ↓reduceIte])
  refine adP 4 rfl (fun T' ok => op_assign rfl rfl) (by exact ⟨rfl, rfl, trivial⟩) (by kernel_rfl) (by kernel_rfl) ?_
  refine adDone (by kernel_rfl) ?_
  (refine hK _ ?_; clear hK K; (simp only [nA, Nat.reduceBEq, Nat.reduceEqDiff, ↓reduceIte, Nat.reduceAdd, Nat.reduceSub]))
  skip
  refine AW.ret ?_; rw [scan_off hE ho, bare_id hv.2.2.2.1]; exact RQ.of0 rfl (.cell (bl rfl) rfl rfl rfl ag26 sz26 (bl rfl) rfl rfl (.cell (bl rfl) rfl rfl rfl ag33 sz33 (bl rfl) rfl rfl (.tmp (bl rfl) rfl rfl .nil)))
end Go.Proofs.Ytdnofpggdddimaa
namespace Go.Proofs.Ytdnofpggdddimaa
open Go.RowKit
set_option linter.unusedSimpArgs false
set_option linter.unusedVariables false
set_option maxRecDepth 100000
def grErr (l : List Grant) (i : Nat) : Int := if grB (l.getD i default) = false then 1 else if (decide ((i : Int) > 0) && decide (cmpP (l.getD (i - 1) default).piece.plate (l.getD i default).piece.plate ≥ 0)) = true then 9 else 0
def grsE (l : List Grant) : Int := orL ((List.range l.length).map (grErr l))
theorem grsE_at {l : List Grant} {i : Nat} {e : Int} (hi : i < l.length) (hz : ∀ k, k < i → grErr l k = 0) (he : grErr l i = e) (h0 : e ≠ 0) : grsE l = e := by
  unfold grsE
  rw [orL_yes (i := i) (by simpa using hi) (fun x hx => ?_) (by simp [he, h0])]
  · simp [he]
  obtain ⟨k, hk, rfl⟩ := mem_take_range hx; exact hz k hk
theorem grsE_ok {l : List Grant} {i : Nat} (hi : ¬ i < l.length) (hz : ∀ k, k < i → grErr l k = 0) : grsE l = 0 := by
  unfold grsE
  rw [orL_no (i := i) (by simpa using hi) (fun x hx => ?_)]
  obtain ⟨k, hk, rfl⟩ := mem_take_range hx; exact hz k hk
def offE (h : Hand) (g : List Grant) (c : List Container) : Int :=
  if valH h ≠ 0 then valH h
  else if h.offline = true then 7
  else if (g.length : Int) > 60 then 2
  else if grsE g ≠ 0 then grsE g else chkL c
def offH (h : Hand) (g : List Grant) (c : List Container) : Hand := ⟨h.number, h.next, h.last, true, g, c.map bareC, h.log⟩
def offR (h : Hand) (g : List Grant) (c : List Container) : Hand × Int := if offE h g c = 0 then (offH h g c, 0) else (zeroH, offE h g c)
theorem off_err {h : Hand} {g : List Grant} {c : List Container} {e : Int} (he : offE h g c = e) (h0 : e ≠ 0) : offR h g c = (zeroH, e) := by
  unfold offR
  rw [if_neg (by rw [he]; exact h0), he]
theorem off_ok {h : Hand} {g : List Grant} {c : List Container} (he : offE h g c = 0) : offR h g c = (offH h g c, 0) := by
  unfold offR
  rw [if_pos he]
theorem C32 {h : Hand} {g : List Grant} {c : List Container} (hs : h.Sm) (hg : g.length ≤ 1000) (hcl : c.length ≤ 1000) : Fn Try.prog 32 [] [.agg h.av, .ro (g.map Grant.av), .ro (c.map Container.av)] [.agg (offR h g c).1.av, .v (.int .i64 (offR h g c).2)] [] := by
  refine Spec.body Try.func32 rfl Try.ntmps32 (by simp) rfl ?_; intro S0 own0 v0 w0
  (refine AW.seq_k ?_; intro K hK)
  refine AW.region ?_
  refine awJ (op_box rfl rfl rfl sz26 rfl) ?_; (simp only [nA, Nat.reduceBEq, Nat.reduceEqDiff, ↓reduceIte])
  refine awJ (op_alloc rfl ze26 rfl) ?_; (simp only [nA, Nat.reduceBEq, Nat.reduceEqDiff, ↓reduceIte])
  refine awP (op_assign rfl rfl) ?_
  refine AWL.nil ?_
  (refine hK _ ?_; clear hK K; (simp only [nA, Nat.reduceBEq, Nat.reduceEqDiff, ↓reduceIte, Nat.reduceAdd, Nat.reduceSub]))
  (refine AW.seq_k ?_; intro K hK)
  (refine AW.seq_k ?_; intro K hK)
  refine AW.region ?_
  (refine awR (op_load_ptr rfl rfl rfl rfl ag26 sz26 (bl rfl) rfl) ?_)
  refine awJ (OpQ.j (op_callQ (b := true) rfl en18 (C18 (h := h) hs) (RL.cons (by exact View.same rfl) (RL.nil)) rfl)) ?_; (simp only [nA, Nat.reduceBEq, Nat.reduceEqDiff, ↓reduceIte, Nat.reduceAdd, Nat.reduceSub])
  refine awP (op_assign rfl rfl) ?_
  refine AWL.nil ?_
  (refine hK _ ?_; clear hK K; (simp only [nA]))
  (refine AW.seq_k ?_; intro K hK)
  refine AW.region ?_
  refine awP (op_move rfl rfl) ?_
  (refine awP (op_neq rfl rfl rfl) ?_)
  refine AWL.nil ?_
  (refine hK _ ?_; clear hK K; (simp only [nA]))
  refine AW.cond rfl rfl rfl (fun hc => ?_) (fun hc => ?_)
  ·
   have hc1 := hc; have g1 : valH h ≠ 0 := (by simpa using hc1)
   (refine AW.seq_k ?_; intro K hK)
   refine AW.region ?_
   refine awP (op_build2 (xs := [.v (.int .i64 0), .v (.int .i64 0), .v (.int .i64 0), .v (.bool false), .v (.slice none 0 0), .v (.slice none 0 0), .v (.slice none 0 0)]) rfl pl26 ze26 [] rfl rfl rfl) ?_
   refine awP (op_move rfl rfl) ?_
   refine awJ (op_store rfl rfl rfl rfl rfl rfl sz26 rfl (bl rfl) rfl) ?_; (simp only [nA, Nat.reduceBEq, Nat.reduceEqDiff, ↓reduceIte])
   refine awP (op_assign rfl rfl) ?_
   refine AWL.nil ?_
   (refine hK _ ?_; clear hK K; (simp only [nA]))
   refine AW.gh (Gh.cell0 (r := 1) (A := none) (c := 0) (row := [.v (.int .i64 0), .v (.int .i64 0), .v (.int .i64 0), .v (.bool false), .v (.slice none 0 0), .v (.slice none 0 0), .v (.slice none 0 0)]) 0 4 rfl rfl rfl (by decide) rfl) ?_; refine AW.gh (Gh.cell0 (r := 1) (A := none) (c := 0) (row := [.v (.int .i64 0), .v (.int .i64 0), .v (.int .i64 0), .v (.bool false), .ro [], .v (.slice none 0 0), .v (.slice none 0 0)]) 0 5 rfl rfl rfl (by decide) rfl) ?_; refine AW.gh (Gh.cell0 (r := 1) (A := none) (c := 0) (row := [.v (.int .i64 0), .v (.int .i64 0), .v (.int .i64 0), .v (.bool false), .ro [], .ro [], .v (.slice none 0 0)]) 0 6 rfl rfl rfl (by decide) rfl) ?_; (simp only [nA, Nat.reduceBEq, Nat.reduceEqDiff, ↓reduceIte, Nat.reduceAdd, Nat.reduceSub])
   refine AW.ret ?_; (simp only [thenE, inBlk, Nat.reduceEqDiff, ↓reduceIte]); rw [off_err (e := valH h) (by unfold offE; rw [if_pos g1]) g1]; exact RQ.of0 rfl (.cell (bl rfl) rfl rfl rfl ag26 sz26 (bl rfl) rfl rfl (.tmp (bl rfl) rfl rfl .nil))
  have hc1 := hc; have g1 : ¬ (valH h ≠ 0) := (by simpa using hc1)
  refine AW.skip ?_
  (refine hK _ ?_; clear hK K; (skip))
  (refine AW.seq_k ?_; intro K hK)
  (refine AW.seq_k ?_; intro K hK)
  refine AW.region ?_
  (refine awP (op_fa_ptr rfl rfl rfl fl26_3 (by exact sz4) (by decide) rfl) ?_)
  (refine awR (op_load_ptr1 rfl rfl rfl rfl ag4 rfl rfl) ?_)
  refine AWL.nil ?_
  (refine hK _ ?_; clear hK K; (simp only [nA, Nat.reduceBEq, Nat.reduceEqDiff, ↓reduceIte, Nat.reduceAdd, Nat.reduceSub]))
  refine AW.cond rfl rfl rfl (fun hc => ?_) (fun hc => ?_)
  ·
   have hc2 := hc
   (refine AW.seq_k ?_; intro K hK)
   refine AW.region ?_
   refine awP (op_build2 (xs := [.v (.int .i64 0), .v (.int .i64 0), .v (.int .i64 0), .v (.bool false), .v (.slice none 0 0), .v (.slice none 0 0), .v (.slice none 0 0)]) rfl pl26 ze26 [] rfl rfl rfl) ?_
   refine awJ (op_store rfl rfl rfl rfl rfl rfl sz26 rfl (bl rfl) rfl) ?_; (simp only [nA, Nat.reduceBEq, Nat.reduceEqDiff, ↓reduceIte])
   refine awP (op_assign rfl rfl) ?_
   refine AWL.nil ?_
   (refine hK _ ?_; clear hK K; (simp only [nA, Nat.reduceBEq, Nat.reduceEqDiff, ↓reduceIte, Nat.reduceAdd, Nat.reduceSub]))
   refine AW.gh (Gh.cell0 (r := 1) (A := none) (c := 0) (row := [.v (.int .i64 0), .v (.int .i64 0), .v (.int .i64 0), .v (.bool false), .v (.slice none 0 0), .v (.slice none 0 0), .v (.slice none 0 0)]) 0 4 rfl rfl rfl (by decide) rfl) ?_; refine AW.gh (Gh.cell0 (r := 1) (A := none) (c := 0) (row := [.v (.int .i64 0), .v (.int .i64 0), .v (.int .i64 0), .v (.bool false), .ro [], .v (.slice none 0 0), .v (.slice none 0 0)]) 0 5 rfl rfl rfl (by decide) rfl) ?_; refine AW.gh (Gh.cell0 (r := 1) (A := none) (c := 0) (row := [.v (.int .i64 0), .v (.int .i64 0), .v (.int .i64 0), .v (.bool false), .ro [], .ro [], .v (.slice none 0 0)]) 0 6 rfl rfl rfl (by decide) rfl) ?_; (simp only [nA, Nat.reduceBEq, Nat.reduceEqDiff, ↓reduceIte, Nat.reduceAdd, Nat.reduceSub])
   refine AW.ret ?_; (simp only [thenE, inBlk, Nat.reduceEqDiff, ↓reduceIte]); rw [off_err (e := 7) (by unfold offE; rw [if_neg g1, if_pos hc2]) (by decide)]; exact RQ.of0 rfl (.cell (bl rfl) rfl rfl rfl ag26 sz26 (bl rfl) rfl rfl (.tmp (bl rfl) rfl rfl .nil))
  have hc2 := hc; have g2 : ¬ (h.offline = true) := (by rw [show h.offline = false from hc2]; decide)
  refine AW.skip ?_
  (refine hK _ ?_; clear hK K; (skip))
  (refine AW.seq_k ?_; intro K hK)
  (refine AW.seq_k ?_; intro K hK)
  refine AW.region ?_
  refine awP (op_move rfl rfl) ?_
  refine awP (op_len_ro (n := g.length) rfl rfl Try.underlying22 (.inr (.inl ⟨_, rfl, by simp⟩))) ?_
  refine awP (op_gtr rfl rfl rfl) ?_
  refine AWL.nil ?_
  (refine hK _ ?_; clear hK K; (simp only [nA, ↓reduceIte]))
  refine AW.cond rfl rfl rfl (fun hc => ?_) (fun hc => ?_)
  ·
   have hc3 := hc; have g3 : (g.length : Int) > 60 := (by simpa using hc3)
   (refine AW.seq_k ?_; intro K hK)
   refine AW.region ?_
   refine awP (op_build2 (xs := [.v (.int .i64 0), .v (.int .i64 0), .v (.int .i64 0), .v (.bool false), .v (.slice none 0 0), .v (.slice none 0 0), .v (.slice none 0 0)]) rfl pl26 ze26 [] rfl rfl rfl) ?_
   refine awJ (op_store rfl rfl rfl rfl rfl rfl sz26 rfl (bl rfl) rfl) ?_; (simp only [nA, Nat.reduceBEq, Nat.reduceEqDiff, ↓reduceIte])
   refine awP (op_assign rfl rfl) ?_
   refine AWL.nil ?_
   (refine hK _ ?_; clear hK K; (simp only [nA, Nat.reduceBEq, Nat.reduceEqDiff, ↓reduceIte, Nat.reduceAdd, Nat.reduceSub]))
   refine AW.gh (Gh.cell0 (r := 1) (A := none) (c := 0) (row := [.v (.int .i64 0), .v (.int .i64 0), .v (.int .i64 0), .v (.bool false), .v (.slice none 0 0), .v (.slice none 0 0), .v (.slice none 0 0)]) 0 4 rfl rfl rfl (by decide) rfl) ?_; refine AW.gh (Gh.cell0 (r := 1) (A := none) (c := 0) (row := [.v (.int .i64 0), .v (.int .i64 0), .v (.int .i64 0), .v (.bool false), .ro [], .v (.slice none 0 0), .v (.slice none 0 0)]) 0 5 rfl rfl rfl (by decide) rfl) ?_; refine AW.gh (Gh.cell0 (r := 1) (A := none) (c := 0) (row := [.v (.int .i64 0), .v (.int .i64 0), .v (.int .i64 0), .v (.bool false), .ro [], .ro [], .v (.slice none 0 0)]) 0 6 rfl rfl rfl (by decide) rfl) ?_; (simp only [nA, Nat.reduceBEq, Nat.reduceEqDiff, ↓reduceIte, Nat.reduceAdd, Nat.reduceSub])
   refine AW.ret ?_; (simp only [thenE, inBlk, Nat.reduceEqDiff, ↓reduceIte]); rw [off_err (e := 2) (by unfold offE; rw [if_neg g1, if_neg g2, if_pos g3]) (by decide)]; exact RQ.of0 rfl (.cell (bl rfl) rfl rfl rfl ag26 sz26 (bl rfl) rfl rfl (.tmp (bl rfl) rfl rfl .nil))
  have hc3 := hc; have g3 : ¬ ((g.length : Int) > 60) := (by simpa using hc3)
  refine AW.skip ?_
  (refine hK _ ?_; clear hK K; (skip))
  (refine AW.seq_k ?_; intro K hK)
  (refine AW.seq_k ?_; intro K hK)
  refine AW.region ?_
  refine awP (op_move rfl rfl) ?_
  refine awP (op_len_ro (n := g.length) rfl rfl Try.underlying22 (.inr (.inl ⟨_, rfl, by simp⟩))) ?_
  refine awP (op_move rfl rfl) ?_
  refine AWL.nil ?_
  (refine hK _ ?_; clear hK K; (simp only [nA, ↓reduceIte]))
  refine AW.block ?_
  refine AW.loopI (fun i => [(1, .ro (g.map Grant.av)), (2, .ro (c.map Container.av)), (3, .ptr 0 1 0 0), (6, .ptr 1 2 0 0), (25, .ro (g.map Grant.av)), (26, .v (.int .i64 g.length)), (27, .v (.int .i64 (i : Nat)))]) (fun i => ⟨[(1, .own 26 [h.av]), (2, .own 26 [[.v (.int .i64 0), .v (.int .i64 0), .v (.int .i64 0), .v (.bool false), .v (.slice none 0 0), .v (.slice none 0 0), .v (.slice none 0 0)]])], 3 + i⟩) (fun i => i ≤ g.length ∧ ∀ k, k < i → grErr g k = 0) (fun i => g.length - i) 0 (by simp) ⟨rfl, rfl, rfl, rfl, rfl, rfl, rfl, trivial⟩ rfl ?_; intro i ρ hi; simp only [updL]
  (refine AW.seq_k ?_; intro K hK)
  refine AW.region ?_
  refine awP (op_lss rfl rfl rfl) ?_
  refine AWL.nil ?_
  (refine hK _ ?_; clear hK K; (simp only [nA, Nat.reduceBEq, Nat.reduceEqDiff, ↓reduceIte, Nat.reduceAdd, Nat.reduceSub]))
  (refine AW.seq_k ?_; intro K hK)
  refine AW.cond rfl rfl rfl (fun hc => ?_) (fun hc => ?_)
  ·
   have hc4 := hc; have hlt : i < g.length := (by simpa using hc4)
   refine AW.skip ?_
   (refine hK _ ?_; clear hK K; (skip))
   (refine AW.seq_k ?_; intro K hK)
   refine AW.block ?_
   (refine AW.seq_k ?_; intro K hK)
   refine AW.region ?_
   refine awP (op_move rfl rfl) ?_
   refine awP (op_ia_ro i rfl (.inl rfl) rfl Try.underlying22 rfl (get_mapD (by omega)) (by exact sz75) (bl rfl)) ?_
   (refine awR (op_load_rop rfl rfl ag75 sz75 (bl rfl) (by decide) rfl) ?_)
   refine awJ (op_alloc rfl ze75 rfl) ?_; (simp only [nA, Nat.reduceBEq, Nat.reduceEqDiff, ↓reduceIte])
   refine awP (op_assign rfl rfl) ?_
   refine awJ (op_store rfl rfl rfl rfl rfl rfl sz75 rfl (bl rfl) rfl) ?_; (simp only [nA, Nat.reduceBEq, Nat.reduceEqDiff, ↓reduceIte])
   refine AWL.nil ?_
   (refine hK _ ?_; clear hK K; (skip))
   (refine AW.seq_k ?_; intro K hK)
   (refine AW.seq_k ?_; intro K hK)
   refine AW.region ?_
   (refine awR (op_load_ptr rfl rfl rfl rfl ag75 sz75 (bl rfl) rfl) ?_)
   refine awJ (OpQ.j (op_callQ (b := true) rfl en62 (C62 (g := g.getD i default)) (RL.cons (by exact View.same rfl) (RL.nil)) rfl)) ?_; (simp only [nA, Nat.reduceBEq, Nat.reduceEqDiff, ↓reduceIte, Nat.reduceAdd, Nat.reduceSub])
   refine awP (op_not rfl rfl rfl) ?_
   refine AWL.nil ?_
   (refine hK _ ?_; clear hK K; (simp only [nA, Nat.reduceBEq, Nat.reduceEqDiff, ↓reduceIte, Nat.reduceAdd, Nat.reduceSub]))
   refine AW.cond rfl rfl rfl (fun hc => ?_) (fun hc => ?_)
   ·
    have hc5 := hc; have e1 : grErr g i = 1 := (by unfold grErr; rw [if_pos (by simpa using hc5)])
    (refine AW.seq_k ?_; intro K hK)
    refine AW.region ?_
    refine awP (op_build2 (xs := [.v (.int .i64 0), .v (.int .i64 0), .v (.int .i64 0), .v (.bool false), .v (.slice none 0 0), .v (.slice none 0 0), .v (.slice none 0 0)]) rfl pl26 ze26 [] rfl rfl rfl) ?_
    refine awJ (op_store rfl rfl rfl rfl rfl rfl sz26 rfl (bl rfl) rfl) ?_; (simp only [nA, Nat.reduceBEq, Nat.reduceEqDiff, ↓reduceIte, Nat.reduceAdd, Nat.reduceSub])
    refine awP (op_assign rfl rfl) ?_
    refine AWL.nil ?_
    (refine hK _ ?_; clear hK K; (simp only [nA, Nat.reduceBEq, Nat.reduceEqDiff, ↓reduceIte, Nat.reduceAdd, Nat.reduceSub]))
    refine AW.gh (Gh.cell0 (r := 1) (A := none) (c := 0) (row := [.v (.int .i64 0), .v (.int .i64 0), .v (.int .i64 0), .v (.bool false), .v (.slice none 0 0), .v (.slice none 0 0), .v (.slice none 0 0)]) 0 4 rfl rfl rfl (by decide) rfl) ?_; refine AW.gh (Gh.cell0 (r := 1) (A := none) (c := 0) (row := [.v (.int .i64 0), .v (.int .i64 0), .v (.int .i64 0), .v (.bool false), .ro [], .v (.slice none 0 0), .v (.slice none 0 0)]) 0 5 rfl rfl rfl (by decide) rfl) ?_; refine AW.gh (Gh.cell0 (r := 1) (A := none) (c := 0) (row := [.v (.int .i64 0), .v (.int .i64 0), .v (.int .i64 0), .v (.bool false), .ro [], .ro [], .v (.slice none 0 0)]) 0 6 rfl rfl rfl (by decide) rfl) ?_; (simp only [nA, Nat.reduceBEq, Nat.reduceEqDiff, ↓reduceIte, Nat.reduceAdd, Nat.reduceSub])
    refine AW.ret ?_; (simp only [thenE, inBlk, Nat.reduceEqDiff, ↓reduceIte]); rw [off_err (e := 1) (by unfold offE; rw [if_neg g1, if_neg g2, if_neg g3, grsE_at hlt hi.2 e1 (by decide), if_pos (by decide)]) (by decide)]; exact RQ.of0 rfl (.cell (bl rfl) rfl rfl rfl ag26 sz26 (bl rfl) rfl rfl (.tmp (bl rfl) rfl rfl .nil))
   have hc5 := hc; have e5 : ¬ grB (g.getD i default) = false := (by simpa using hc5)
   refine AW.skip ?_
   (refine hK _ ?_; clear hK K; (skip))
   (refine AW.seq_k ?_; intro K hK)
   refine AW.quiet mix (by kernel_rfl) ?_
   refine aqP (op_move rfl rfl) ?_
   refine aqP (op_gtr rfl rfl rfl) ?_
   refine aqP (op_move rfl rfl) ?_
   refine' aqAnd' [_, _, _, _, _, _, _, _, _, _, _, _] [39,40,41,42,43,44,45,46,47,48,49,50] rfl rfl rfl rfl rfl rfl rfl rfl rfl rfl rfl rfl (fun hb => ?_) ?_; rotate_left
   ·
    (try simp only [hcS] at hb)
    refine aqP (op_move rfl rfl) ?_
    refine aqP (op_move rfl rfl) ?_
    (refine aqP (op_subi rfl rfl rfl (by omega)) ?_)
    refine aqP (op_ia_ro (i - 1) rfl (.inl rfl) rfl Try.underlying22 (by simp at hb; omega) (get_mapD (by omega)) (by exact sz75) (bl rfl)) ?_
    (refine aqP (op_fa_rop rfl rfl fl75_0 (by exact sz31) (by decide) (bl rfl) rfl) ?_)
    (refine aqP (op_fa_rop rfl rfl fl31_0 (by exact sz29) (by decide) (bl rfl) rfl) ?_)
    (refine aqR (op_load_rop rfl rfl ag29 sz29 (bl rfl) (by decide) rfl) ?_)
    (refine aqP (op_fa_ptr rfl rfl rfl fl75_0 (by exact sz31) (by decide) rfl) ?_)
    (refine aqP (op_fa_ptr rfl rfl rfl fl31_0 (by exact sz29) (by decide) rfl) ?_)
    (refine aqR (op_load_ptr rfl rfl rfl rfl ag29 sz29 (bl rfl) rfl) ?_)
    refine aqQ (op_callQ (b := true) rfl en63 (C63 (p := (g.getD (i - 1) default).piece.plate) (q := (g.getD i default).piece.plate)) (RL.cons (by exact View.same rfl) (RL.cons (by exact View.same rfl) (RL.nil))) rfl) ?_; (simp only [nA, ↓reduceIte])
    refine aqP (op_geq rfl rfl rfl) ?_
    (refine aqSeg rfl rfl rfl ?_; repeat (first | exact fun _ _ => rfl | refine upd_out rfl ?_))
   simp only [nA, ↓reduceIte]
   refine AQ.nil ?_
   (refine hK _ ?_; clear hK K; (skip))
   refine AW.cond rfl rfl rfl (fun hc => ?_) (fun hc => ?_)
   ·
    have hc6 := hc; have e1 : grErr g i = 9 := (by unfold grErr; rw [if_neg e5, if_pos hc6])
    (refine AW.seq_k ?_; intro K hK)
    refine AW.region ?_
    refine awP (op_build2 (xs := [.v (.int .i64 0), .v (.int .i64 0), .v (.int .i64 0), .v (.bool false), .v (.slice none 0 0), .v (.slice none 0 0), .v (.slice none 0 0)]) rfl pl26 ze26 [] rfl rfl rfl) ?_
    refine awJ (op_store rfl rfl rfl rfl rfl rfl sz26 rfl (bl rfl) rfl) ?_; (simp only [nA, Nat.reduceBEq, Nat.reduceEqDiff, ↓reduceIte, Nat.reduceAdd, Nat.reduceSub])
    refine awP (op_assign rfl rfl) ?_
    refine AWL.nil ?_
    (refine hK _ ?_; clear hK K; (simp only [nA, Nat.reduceBEq, Nat.reduceEqDiff, ↓reduceIte, Nat.reduceAdd, Nat.reduceSub]))
    refine AW.gh (Gh.cell0 (r := 1) (A := none) (c := 0) (row := [.v (.int .i64 0), .v (.int .i64 0), .v (.int .i64 0), .v (.bool false), .v (.slice none 0 0), .v (.slice none 0 0), .v (.slice none 0 0)]) 0 4 rfl rfl rfl (by decide) rfl) ?_; refine AW.gh (Gh.cell0 (r := 1) (A := none) (c := 0) (row := [.v (.int .i64 0), .v (.int .i64 0), .v (.int .i64 0), .v (.bool false), .ro [], .v (.slice none 0 0), .v (.slice none 0 0)]) 0 5 rfl rfl rfl (by decide) rfl) ?_; refine AW.gh (Gh.cell0 (r := 1) (A := none) (c := 0) (row := [.v (.int .i64 0), .v (.int .i64 0), .v (.int .i64 0), .v (.bool false), .ro [], .ro [], .v (.slice none 0 0)]) 0 6 rfl rfl rfl (by decide) rfl) ?_; (simp only [nA, Nat.reduceBEq, Nat.reduceEqDiff, ↓reduceIte, Nat.reduceAdd, Nat.reduceSub])
    refine AW.ret ?_; (simp only [thenE, inBlk, Nat.reduceEqDiff, ↓reduceIte]); rw [off_err (e := 9) (by unfold offE; rw [if_neg g1, if_neg g2, if_neg g3, grsE_at hlt hi.2 e1 (by decide), if_pos (by decide)]) (by decide)]; exact RQ.of0 rfl (.cell (bl rfl) rfl rfl rfl ag26 sz26 (bl rfl) rfl rfl (.tmp (bl rfl) rfl rfl .nil))
   have hc6 := hc; have e1 : grErr g i = 0 := (by unfold grErr; rw [if_neg e5, if_neg (by rw [show (decide ((i : Int) > 0) && decide (cmpP (g.getD (i - 1) default).piece.plate (g.getD i default).piece.plate ≥ 0)) = false from hc6]; decide)])
   refine AW.skip ?_
   simp only [thenE, inBlk, Nat.reduceEqDiff, ↓reduceIte]
   (refine hK _ ?_; clear hK K; (skip))
   refine AW.region ?_
   (refine awP (op_addi rfl rfl rfl (by omega)) ?_)
   refine awP (op_move rfl rfl) ?_
   refine AWL.gh (Gh.drop 2) ?_; (simp only [nA])
   refine AWL.nil ?_
   refine ⟨i + 1, ⟨by omega, all_step hi.2 e1⟩, by omega, ⟨rfl, rfl, rfl, rfl, rfl, rfl, rfl, trivial⟩, (by rfl), (by rfl)⟩
  have hc4 := hc; have hnl : ¬ i < g.length := (by simpa using hc4); have g4 : ¬ (grsE g ≠ 0) := (by rw [grsE_ok hnl hi.2]; decide)
  refine AW.exit ?_; (simp only [thenE, inBlk, Nat.reduceEqDiff, ↓reduceIte])
  clear hK K
  (refine hK _ ?_; clear hK K; (skip))
  (refine AW.seq_k ?_; intro K hK)
  (refine AW.seq_k ?_; intro K hK)
  refine AW.region ?_
  refine awP (op_move rfl rfl) ?_
  refine awJ (OpQ.j (op_callQ (b := true) rfl en64 (C64 (xs := c) (by omega)) (RL.cons (by exact View.same rfl) (RL.nil)) rfl)) ?_; (simp only [nA, ↓reduceIte])
  refine awP (op_assign rfl rfl) ?_
  refine AWL.nil ?_
  (refine hK _ ?_; clear hK K; (simp only [nA]))
  (refine AW.seq_k ?_; intro K hK)
  refine AW.region ?_
  refine awP (op_move rfl rfl) ?_
  (refine awP (op_neq rfl rfl rfl) ?_)
  refine AWL.nil ?_
  (refine hK _ ?_; clear hK K; (simp only [nA]))
  refine AW.cond rfl rfl rfl (fun hc => ?_) (fun hc => ?_)
  ·
   have hc7 := hc; have g5 : chkL c ≠ 0 := (by simpa using hc7)
   (refine AW.seq_k ?_; intro K hK)
   refine AW.region ?_
   refine awP (op_build2 (xs := [.v (.int .i64 0), .v (.int .i64 0), .v (.int .i64 0), .v (.bool false), .v (.slice none 0 0), .v (.slice none 0 0), .v (.slice none 0 0)]) rfl pl26 ze26 [] rfl rfl rfl) ?_
   refine awP (op_move rfl rfl) ?_
   refine awJ (op_store rfl rfl rfl rfl rfl rfl sz26 rfl (bl rfl) rfl) ?_; (simp only [nA, ↓reduceIte])
   refine awP (op_assign rfl rfl) ?_
   refine AWL.nil ?_
   (refine hK _ ?_; clear hK K; (simp only [nA]))
   refine AW.gh (Gh.cell0 (r := 1) (A := none) (c := 0) (row := [.v (.int .i64 0), .v (.int .i64 0), .v (.int .i64 0), .v (.bool false), .v (.slice none 0 0), .v (.slice none 0 0), .v (.slice none 0 0)]) 0 4 rfl rfl rfl (by decide) rfl) ?_; refine AW.gh (Gh.cell0 (r := 1) (A := none) (c := 0) (row := [.v (.int .i64 0), .v (.int .i64 0), .v (.int .i64 0), .v (.bool false), .ro [], .v (.slice none 0 0), .v (.slice none 0 0)]) 0 5 rfl rfl rfl (by decide) rfl) ?_; refine AW.gh (Gh.cell0 (r := 1) (A := none) (c := 0) (row := [.v (.int .i64 0), .v (.int .i64 0), .v (.int .i64 0), .v (.bool false), .ro [], .ro [], .v (.slice none 0 0)]) 0 6 rfl rfl rfl (by decide) rfl) ?_; (simp only [nA, Nat.reduceBEq, Nat.reduceEqDiff, ↓reduceIte, Nat.reduceAdd, Nat.reduceSub])
   refine AW.ret ?_; (simp only [thenE, inBlk, Nat.reduceEqDiff, ↓reduceIte]); rw [off_err (e := chkL c) (by unfold offE; rw [if_neg g1, if_neg g2, if_neg g3, if_neg g4]) g5]; exact RQ.of0 rfl (.cell (bl rfl) rfl rfl rfl ag26 sz26 (bl rfl) rfl rfl (.tmp (bl rfl) rfl rfl .nil))
  have hc7 := hc; have g5 : chkL c = 0 := (by simpa using hc7)
  refine AW.skip ?_
  (refine hK _ ?_; clear hK K; (skip))
  (refine AW.seq_k ?_; intro K hK)
  refine AW.region ?_
  refine awP (op_move rfl rfl) ?_
  refine awJ (op_call (b := false) rfl en65 (C65 (l := g) (by omega)) (RL.cons (by exact View.same rfl) (RL.nil)) rfl (fun h => by cases h) rfl rfl) ?_; (simp only [nA, ↓reduceIte])
  refine awP (op_move rfl rfl) ?_
  refine awJ (op_call (b := false) rfl en66 (C66 (l := c) (by omega)) (RL.cons (by exact View.same rfl) (RL.nil)) rfl (fun h => by cases h) rfl rfl) ?_; (simp only [nA, ↓reduceIte])
  (refine awP (op_fa_ptr rfl rfl rfl fl26_3 (by exact sz4) (by decide) rfl) ?_)
  refine awJ (op_store rfl rfl rfl rfl rfl rfl sz4 rfl (bl rfl) rfl) ?_; (simp only [nA, Nat.reduceBEq, Nat.reduceEqDiff, ↓reduceIte, Nat.reduceAdd, Nat.reduceSub])
  (refine awP (op_fa_ptr rfl rfl rfl fl26_4 (by exact sz22) (by decide) rfl) ?_)
  refine awJ (op_store rfl rfl rfl rfl rfl rfl sz22 rfl (bl rfl) rfl) ?_; (simp only [nA, ↓reduceIte])
  (refine awP (op_fa_ptr rfl rfl rfl fl26_5 (by exact sz23) (by decide) rfl) ?_)
  refine awJ (op_store rfl rfl rfl rfl rfl rfl sz23 rfl (bl rfl) rfl) ?_; (simp only [nA, ↓reduceIte])
  refine AWL.nil ?_
  (refine hK _ ?_; clear hK K; (skip))
  (refine AW.seq_k ?_; intro K hK)
  refine AW.region ?_
  (refine awR (op_load_ptr rfl rfl rfl rfl ag26 sz26 (bl rfl) rfl) ?_)
  refine awJ (op_store rfl rfl rfl rfl rfl rfl sz26 rfl (bl rfl) rfl) ?_; (simp only [nA, Nat.reduceBEq, Nat.reduceEqDiff, ↓reduceIte, Nat.reduceAdd, Nat.reduceSub])
  refine awP (op_assign rfl rfl) ?_
  refine AWL.nil ?_
  (refine hK _ ?_; clear hK K; (simp only [nA, Nat.reduceBEq, Nat.reduceEqDiff, ↓reduceIte, Nat.reduceAdd, Nat.reduceSub]))
  skip
  refine AW.ret ?_; rw [off_ok (by unfold offE; rw [if_neg g1, if_neg g2, if_neg g3, if_neg g4, g5])]; exact RQ.of0 rfl (.cell (bl rfl) rfl rfl rfl ag26 sz26 (bl rfl) rfl rfl (.tmp (bl rfl) rfl rfl .nil))
end Go.Proofs.Ytdnofpggdddimaa
namespace Go.Proofs.Ytdnofpggdddimaa
open Go.RowKit
set_option linter.unusedSimpArgs false
set_option linter.unusedVariables false
set_option maxRecDepth 100000
theorem Fn.nil_agg {P : Program} {f : FuncId} {cs cs' xs ys : List AV} (hle : RL (Le2 P) cs' cs) (h : Fn P f [] (.agg cs :: xs) ys []) : Fn P f [] (.agg cs' :: xs) ys [] := fun w S vals bss vs came => by
  have hargs : RL (AggOK P S w (insT []) vals) vs (.agg cs :: xs) := by
    obtain ⟨u, us, rfl, ⟨cu, rfl, hr⟩, hus⟩ := came.args.cons_inv
    refine RL.cons ⟨cu, rfl, hr.1.trans hle.1, fun i u x hu hx => ?_⟩ hus
    have hi : i < cs'.length := by rw [← hr.1]; exact (List.getElem?_eq_some_iff.1 hu).1
    have hx' := List.getElem?_eq_getElem hi
    have h1 := hr.2 i u _ hu hx'
    have h2 := hle.2 i _ x hx' hx
    revert h1 h2
    generalize cs'[i] = y
    intro h1 h2
    cases h2 with
    | same => exact h1
    | nil => exact Le2.rep (P := P) .nil (show Rep P S w [] u (.v (.slice none 0 0)) from h1)
    | nilo h => exact Le2.rep (P := P) (.nilo h) (show Rep P S w [] u (.v (.slice none 0 0)) from h1)
  exact h w S vals bss vs { came with args := hargs }
abbrev onH (nb nx ls : Int) : Hand := ⟨nb, nx, ls, false, [], [], []⟩
abbrev onV (nb nx ls : Int) : List AV := [.v (.int .i64 nb), .v (.int .i64 nx), .v (.int .i64 ls), .v (.bool false), .v (.slice none 0 0), .v (.slice none 0 0), .v (.slice none 0 0)]
theorem on_sm (nb nx ls : Int) : (onH nb nx ls).Sm := ⟨by simp, by simp, by simp, by simp⟩
theorem C19n {nb nx ls : Int} : Fn Try.prog 19 [] [.agg (onV nb nx ls)] [.v (.int .i64 (valH (onH nb nx ls)))] [] :=
  Fn.nil_agg (cs := (onH nb nx ls).av) (RL.cons .same (RL.cons .same (RL.cons .same (RL.cons .same (RL.cons .nil (RL.cons .nil (RL.cons .nil RL.nil))))))) (C19 (on_sm nb nx ls))
abbrev rowO (nb nx ls : Int) (g : List Grant) (x : AV) : List AV := [.v (.int .i64 nb), .v (.int .i64 nx), .v (.int .i64 ls), .v (.bool true), .ro (g.map Grant.av), x, .v (.slice none 0 0)]
theorem rowO_le (nb nx ls : Int) (g : List Grant) : RL (Le2 Try.prog) [rowO nb nx ls g (.v (.slice none 0 0))].flatten [rowO nb nx ls g (.own 77 [])].flatten :=
  RL.cons .same (RL.cons .same (RL.cons .same (RL.cons .same (RL.cons .same (RL.cons (.nilo sz77) (RL.cons .same RL.nil))))))
theorem bare_take {c : List Container} {i : Nat} (hi : i < c.length) : ((c.take i).map bareC).map Container.av ++ [(bareC (c.getD i default)).av] = ((c.take (i + 1)).map bareC).map Container.av := by
  rw [List.take_add_one, List.getElem?_eq_getElem hi, getD_of hi]
  simp only [Option.toList, List.map_append, List.map_cons, List.map_nil]
theorem C33 {nb nx ls : Int} {g : List Grant} {c : List Container} (hg : g.length ≤ 1000) (hcl : c.length ≤ 1000) (hcp : ∀ x ∈ c, x.pieces.length ≤ 1000000000) : Fn Try.prog 33 [] [.agg (onV nb nx ls), .ro (g.map Grant.av), .ro (c.map Container.av)] [.agg (offR (onH nb nx ls) g c).1.av, .v (.int .i64 (offR (onH nb nx ls) g c).2)] [] := by
  refine Spec.body Try.func33 rfl Try.ntmps33 (by simp) rfl ?_; intro S0 own0 v0 w0
  (refine AW.seq_k ?_; intro K hK)
  refine AW.region ?_
  refine awJ (op_box rfl rfl rfl sz26 rfl) ?_; (simp only [nA, Nat.reduceBEq, Nat.reduceEqDiff, ↓reduceIte])
  refine awJ (op_alloc rfl ze26 rfl) ?_; (simp only [nA, Nat.reduceBEq, Nat.reduceEqDiff, ↓reduceIte])
  refine awP (op_assign rfl rfl) ?_
  refine AWL.nil ?_
  (refine hK _ ?_; clear hK K; (simp only [nA, Nat.reduceBEq, Nat.reduceEqDiff, ↓reduceIte, Nat.reduceAdd, Nat.reduceSub]))
  (refine AW.seq_k ?_; intro K hK)
  (refine AW.seq_k ?_; intro K hK)
  refine AW.region ?_
  (refine awR (op_load_ptr rfl rfl rfl rfl ag26 sz26 (bl rfl) rfl) ?_)
  refine awJ (OpQ.j (op_callQ (b := true) rfl en19 (C19n (nb := nb) (nx := nx) (ls := ls)) (RL.cons (by exact View.same rfl) (RL.nil)) rfl)) ?_; (simp only [nA, Nat.reduceBEq, Nat.reduceEqDiff, ↓reduceIte, Nat.reduceAdd, Nat.reduceSub])
  refine awP (op_assign rfl rfl) ?_
  refine AWL.nil ?_
  (refine hK _ ?_; clear hK K; (simp only [nA]))
  (refine AW.seq_k ?_; intro K hK)
  refine AW.region ?_
  refine awP (op_move rfl rfl) ?_
  (refine awP (op_neq rfl rfl rfl) ?_)
  refine AWL.nil ?_
  (refine hK _ ?_; clear hK K; (simp only [nA]))
  refine AW.cond rfl rfl rfl (fun hc => ?_) (fun hc => ?_)
  ·
   have hc1 := hc; have g1 : valH (onH nb nx ls) ≠ 0 := (by simpa using hc1)
   (refine AW.seq_k ?_; intro K hK)
   refine AW.region ?_
   refine awP (op_build2 (xs := [.v (.int .i64 0), .v (.int .i64 0), .v (.int .i64 0), .v (.bool false), .v (.slice none 0 0), .v (.slice none 0 0), .v (.slice none 0 0)]) rfl pl26 ze26 [] rfl rfl rfl) ?_
   refine awP (op_move rfl rfl) ?_
   refine awJ (op_store rfl rfl rfl rfl rfl rfl sz26 rfl (bl rfl) rfl) ?_; (simp only [nA, Nat.reduceBEq, Nat.reduceEqDiff, ↓reduceIte])
   refine awP (op_assign rfl rfl) ?_
   refine AWL.nil ?_
   (refine hK _ ?_; clear hK K; (simp only [nA]))
   refine AW.gh (Gh.cell0 (r := 1) (A := none) (c := 0) (row := [.v (.int .i64 0), .v (.int .i64 0), .v (.int .i64 0), .v (.bool false), .v (.slice none 0 0), .v (.slice none 0 0), .v (.slice none 0 0)]) 0 4 rfl rfl rfl (by decide) rfl) ?_; refine AW.gh (Gh.cell0 (r := 1) (A := none) (c := 0) (row := [.v (.int .i64 0), .v (.int .i64 0), .v (.int .i64 0), .v (.bool false), .ro [], .v (.slice none 0 0), .v (.slice none 0 0)]) 0 5 rfl rfl rfl (by decide) rfl) ?_; refine AW.gh (Gh.cell0 (r := 1) (A := none) (c := 0) (row := [.v (.int .i64 0), .v (.int .i64 0), .v (.int .i64 0), .v (.bool false), .ro [], .ro [], .v (.slice none 0 0)]) 0 6 rfl rfl rfl (by decide) rfl) ?_; (simp only [nA, Nat.reduceBEq, Nat.reduceEqDiff, ↓reduceIte, Nat.reduceAdd, Nat.reduceSub])
   refine AW.ret ?_; (simp only [thenE, inBlk, Nat.reduceEqDiff, ↓reduceIte]); rw [off_err (h := (onH nb nx ls)) (e := valH (onH nb nx ls)) (by unfold offE; rw [if_pos g1]) g1]; exact RQ.of0 rfl (.cell (bl rfl) rfl rfl rfl ag26 sz26 (bl rfl) rfl rfl (.tmp (bl rfl) rfl rfl .nil))
  have hc1 := hc; have g1 : ¬ (valH (onH nb nx ls) ≠ 0) := (by simpa using hc1)
  refine AW.skip ?_
  (refine hK _ ?_; clear hK K; (skip))
  (refine AW.seq_k ?_; intro K hK)
  (refine AW.seq_k ?_; intro K hK)
  refine AW.region ?_
  (refine awP (op_fa_ptr rfl rfl rfl fl26_3 (by exact sz4) (by decide) rfl) ?_)
  (refine awR (op_load_ptr1 rfl rfl rfl rfl ag4 rfl rfl) ?_)
  refine AWL.nil ?_
  (refine hK _ ?_; clear hK K; (simp only [nA, Nat.reduceBEq, Nat.reduceEqDiff, ↓reduceIte, Nat.reduceAdd, Nat.reduceSub]))
  refine AW.cond rfl rfl rfl (fun hc => ?_) (fun hc => ?_)
  · (cases hc; done)
  have hc2 := hc; have g2 : ¬ (((onH nb nx ls)).offline = true) := (by intro h; cases h)
  refine AW.skip ?_
  (refine hK _ ?_; clear hK K; (skip))
  (refine AW.seq_k ?_; intro K hK)
  (refine AW.seq_k ?_; intro K hK)
  refine AW.region ?_
  refine awP (op_move rfl rfl) ?_
  refine awP (op_len_ro (n := g.length) rfl rfl Try.underlying22 (.inr (.inl ⟨_, rfl, by simp⟩))) ?_
  refine awP (op_gtr rfl rfl rfl) ?_
  refine AWL.nil ?_
  (refine hK _ ?_; clear hK K; (simp only [nA, ↓reduceIte]))
  refine AW.cond rfl rfl rfl (fun hc => ?_) (fun hc => ?_)
  ·
   have hc3 := hc; have g3 : (g.length : Int) > 60 := (by simpa using hc3)
   (refine AW.seq_k ?_; intro K hK)
   refine AW.region ?_
   refine awP (op_build2 (xs := [.v (.int .i64 0), .v (.int .i64 0), .v (.int .i64 0), .v (.bool false), .v (.slice none 0 0), .v (.slice none 0 0), .v (.slice none 0 0)]) rfl pl26 ze26 [] rfl rfl rfl) ?_
   refine awJ (op_store rfl rfl rfl rfl rfl rfl sz26 rfl (bl rfl) rfl) ?_; (simp only [nA, Nat.reduceBEq, Nat.reduceEqDiff, ↓reduceIte])
   refine awP (op_assign rfl rfl) ?_
   refine AWL.nil ?_
   (refine hK _ ?_; clear hK K; (simp only [nA, Nat.reduceBEq, Nat.reduceEqDiff, ↓reduceIte, Nat.reduceAdd, Nat.reduceSub]))
   refine AW.gh (Gh.cell0 (r := 1) (A := none) (c := 0) (row := [.v (.int .i64 0), .v (.int .i64 0), .v (.int .i64 0), .v (.bool false), .v (.slice none 0 0), .v (.slice none 0 0), .v (.slice none 0 0)]) 0 4 rfl rfl rfl (by decide) rfl) ?_; refine AW.gh (Gh.cell0 (r := 1) (A := none) (c := 0) (row := [.v (.int .i64 0), .v (.int .i64 0), .v (.int .i64 0), .v (.bool false), .ro [], .v (.slice none 0 0), .v (.slice none 0 0)]) 0 5 rfl rfl rfl (by decide) rfl) ?_; refine AW.gh (Gh.cell0 (r := 1) (A := none) (c := 0) (row := [.v (.int .i64 0), .v (.int .i64 0), .v (.int .i64 0), .v (.bool false), .ro [], .ro [], .v (.slice none 0 0)]) 0 6 rfl rfl rfl (by decide) rfl) ?_; (simp only [nA, Nat.reduceBEq, Nat.reduceEqDiff, ↓reduceIte, Nat.reduceAdd, Nat.reduceSub])
   refine AW.ret ?_; (simp only [thenE, inBlk, Nat.reduceEqDiff, ↓reduceIte]); rw [off_err (h := (onH nb nx ls)) (e := 2) (by unfold offE; rw [if_neg g1, if_neg g2, if_pos g3]) (by decide)]; exact RQ.of0 rfl (.cell (bl rfl) rfl rfl rfl ag26 sz26 (bl rfl) rfl rfl (.tmp (bl rfl) rfl rfl .nil))
  have hc3 := hc; have g3 : ¬ ((g.length : Int) > 60) := (by simpa using hc3)
  refine AW.skip ?_
  (refine hK _ ?_; clear hK K; (skip))
  (refine AW.seq_k ?_; intro K hK)
  (refine AW.seq_k ?_; intro K hK)
  refine AW.region ?_
  refine awP (op_assign rfl rfl) ?_
  refine AWL.nil ?_
  (refine hK _ ?_; clear hK K; (simp only [nA, Nat.reduceBEq, Nat.reduceEqDiff, ↓reduceIte, Nat.reduceAdd, Nat.reduceSub]))
  refine AW.block ?_
  refine AW.loopI (fun i => [(1, .ro (g.map Grant.av)), (2, .ro (c.map Container.av)), (3, .ptr 0 1 0 0), (6, .ptr 1 2 0 0), (9, .v (.int .i64 (i : Nat)))]) (fun i => ⟨[(1, .own 26 [onV nb nx ls]), (2, .own 26 [[.v (.int .i64 0), .v (.int .i64 0), .v (.int .i64 0), .v (.bool false), .v (.slice none 0 0), .v (.slice none 0 0), .v (.slice none 0 0)]])], 3⟩) (fun i => i ≤ g.length ∧ ∀ k, k < i → grErr g k = 0) (fun i => g.length - i) 0 (by simp) ⟨rfl, rfl, rfl, rfl, rfl, trivial⟩ rfl ?_; intro i ρ hi; simp only [updL]
  (refine AW.seq_k ?_; intro K hK)
  (refine AW.seq_k ?_; intro K hK)
  refine AW.region ?_
  refine awP (op_move rfl rfl) ?_
  refine awP (op_move rfl rfl) ?_
  refine awP (op_len_ro (n := g.length) rfl rfl Try.underlying22 (.inr (.inl ⟨_, rfl, by simp⟩))) ?_
  refine awP (op_lss rfl rfl rfl) ?_
  refine AWL.nil ?_
  (refine hK _ ?_; clear hK K; (simp only [nA, ↓reduceIte]))
  refine AW.cond rfl rfl rfl (fun hc => ?_) (fun hc => ?_)
  ·
   have hc4 := hc; have hlt : i < g.length := (by simpa using hc4)
   refine AW.skip ?_
   (refine hK _ ?_; clear hK K; (skip))
   (refine AW.seq_k ?_; intro K hK)
   refine AW.block ?_
   (refine AW.seq_k ?_; intro K hK)
   (refine AW.seq_k ?_; intro K hK)
   refine AW.region ?_
   refine awP (op_move rfl rfl) ?_
   refine awP (op_move rfl rfl) ?_
   refine awP (op_ia_ro i rfl (.inl rfl) rfl Try.underlying22 rfl (get_mapD (by omega)) (by exact sz75) (bl rfl)) ?_
   (refine awR (op_load_rop rfl rfl ag75 sz75 (bl rfl) (by decide) rfl) ?_)
   refine awJ (OpQ.j (op_callQ (b := true) rfl en67 (C67 (g := g.getD i default)) (RL.cons (by exact View.same rfl) (RL.nil)) rfl)) ?_; (simp only [nA, ↓reduceIte])
   refine awP (op_not rfl rfl rfl) ?_
   refine AWL.nil ?_
   (refine hK _ ?_; clear hK K; (simp only [nA, Nat.reduceBEq, Nat.reduceEqDiff, ↓reduceIte, Nat.reduceAdd, Nat.reduceSub]))
   refine AW.cond rfl rfl rfl (fun hc => ?_) (fun hc => ?_)
   ·
    have hc5 := hc; have e1 : grErr g i = 1 := (by unfold grErr; rw [if_pos (by simpa using hc5)])
    (refine AW.seq_k ?_; intro K hK)
    refine AW.region ?_
    refine awP (op_build2 (xs := [.v (.int .i64 0), .v (.int .i64 0), .v (.int .i64 0), .v (.bool false), .v (.slice none 0 0), .v (.slice none 0 0), .v (.slice none 0 0)]) rfl pl26 ze26 [] rfl rfl rfl) ?_
    refine awJ (op_store rfl rfl rfl rfl rfl rfl sz26 rfl (bl rfl) rfl) ?_; (simp only [nA, Nat.reduceBEq, Nat.reduceEqDiff, ↓reduceIte, Nat.reduceAdd, Nat.reduceSub])
    refine awP (op_assign rfl rfl) ?_
    refine AWL.nil ?_
    (refine hK _ ?_; clear hK K; (simp only [nA, Nat.reduceBEq, Nat.reduceEqDiff, ↓reduceIte, Nat.reduceAdd, Nat.reduceSub]))
    refine AW.gh (Gh.cell0 (r := 1) (A := none) (c := 0) (row := [.v (.int .i64 0), .v (.int .i64 0), .v (.int .i64 0), .v (.bool false), .v (.slice none 0 0), .v (.slice none 0 0), .v (.slice none 0 0)]) 0 4 rfl rfl rfl (by decide) rfl) ?_; refine AW.gh (Gh.cell0 (r := 1) (A := none) (c := 0) (row := [.v (.int .i64 0), .v (.int .i64 0), .v (.int .i64 0), .v (.bool false), .ro [], .v (.slice none 0 0), .v (.slice none 0 0)]) 0 5 rfl rfl rfl (by decide) rfl) ?_; refine AW.gh (Gh.cell0 (r := 1) (A := none) (c := 0) (row := [.v (.int .i64 0), .v (.int .i64 0), .v (.int .i64 0), .v (.bool false), .ro [], .ro [], .v (.slice none 0 0)]) 0 6 rfl rfl rfl (by decide) rfl) ?_; (simp only [nA, Nat.reduceBEq, Nat.reduceEqDiff, ↓reduceIte, Nat.reduceAdd, Nat.reduceSub])
    refine AW.ret ?_; (simp only [thenE, inBlk, Nat.reduceEqDiff, ↓reduceIte]); rw [off_err (h := (onH nb nx ls)) (e := 1) (by unfold offE; rw [if_neg g1, if_neg g2, if_neg g3, grsE_at hlt hi.2 e1 (by decide), if_pos (by decide)]) (by decide)]; exact RQ.of0 rfl (.cell (bl rfl) rfl rfl rfl ag26 sz26 (bl rfl) rfl rfl (.tmp (bl rfl) rfl rfl .nil))
   have hc5 := hc; have e5 : ¬ grB (g.getD i default) = false := (by simpa using hc5)
   refine AW.skip ?_
   (refine hK _ ?_; clear hK K; (skip))
   (refine AW.seq_k ?_; intro K hK)
   refine AW.quiet mix (by kernel_rfl) ?_
   refine aqP (op_move rfl rfl) ?_
   refine aqP (op_gtr rfl rfl rfl) ?_
   refine aqP (op_move rfl rfl) ?_
   refine' aqAnd' [_, _, _, _, _, _, _, _, _, _, _, _, _, _, _] [42,43,44,45,46,47,48,49,50,51,52,53,54,55,56] rfl rfl rfl rfl rfl rfl rfl rfl rfl rfl rfl rfl (fun hb => ?_) ?_; rotate_left
   ·
    (try simp only [hcS] at hb)
    refine aqP (op_move rfl rfl) ?_
    refine aqP (op_move rfl rfl) ?_
    (refine aqP (op_subi rfl rfl rfl (by omega)) ?_)
    refine aqP (op_ia_ro (i - 1) rfl (.inl rfl) rfl Try.underlying22 (by simp at hb; omega) (get_mapD (by omega)) (by exact sz75) (bl rfl)) ?_
    (refine aqP (op_fa_rop rfl rfl fl75_0 (by exact sz31) (by decide) (bl rfl) rfl) ?_)
    (refine aqP (op_fa_rop rfl rfl fl31_0 (by exact sz29) (by decide) (bl rfl) rfl) ?_)
    (refine aqR (op_load_rop rfl rfl ag29 sz29 (bl rfl) (by decide) rfl) ?_)
    refine aqP (op_move rfl rfl) ?_
    refine aqP (op_move rfl rfl) ?_
    refine aqP (op_ia_ro i rfl (.inl rfl) rfl Try.underlying22 rfl (get_mapD (by omega)) (by exact sz75) (bl rfl)) ?_
    (refine aqP (op_fa_rop rfl rfl fl75_0 (by exact sz31) (by decide) (bl rfl) rfl) ?_)
    (refine aqP (op_fa_rop rfl rfl fl31_0 (by exact sz29) (by decide) (bl rfl) rfl) ?_)
    (refine aqR (op_load_rop rfl rfl ag29 sz29 (bl rfl) (by decide) rfl) ?_)
    refine aqQ (op_callQ (b := true) rfl en68 (C68 (p := (g.getD (i - 1) default).piece.plate) (q := (g.getD i default).piece.plate)) (RL.cons (by exact View.same rfl) (RL.cons (by exact View.same rfl) (RL.nil))) rfl) ?_; (simp only [nA, ↓reduceIte])
    refine aqP (op_geq rfl rfl rfl) ?_
    (refine aqSeg rfl rfl rfl ?_; repeat (first | exact fun _ _ => rfl | refine upd_out rfl ?_))
   simp only [nA, ↓reduceIte]
   refine AQ.nil ?_
   (refine hK _ ?_; clear hK K; (skip))
   refine AW.cond rfl rfl rfl (fun hc => ?_) (fun hc => ?_)
   ·
    have hc6 := hc; have e1 : grErr g i = 9 := (by unfold grErr; rw [if_neg e5, if_pos hc6])
    (refine AW.seq_k ?_; intro K hK)
    refine AW.region ?_
    refine awP (op_build2 (xs := [.v (.int .i64 0), .v (.int .i64 0), .v (.int .i64 0), .v (.bool false), .v (.slice none 0 0), .v (.slice none 0 0), .v (.slice none 0 0)]) rfl pl26 ze26 [] rfl rfl rfl) ?_
    refine awJ (op_store rfl rfl rfl rfl rfl rfl sz26 rfl (bl rfl) rfl) ?_; (simp only [nA, Nat.reduceBEq, Nat.reduceEqDiff, ↓reduceIte, Nat.reduceAdd, Nat.reduceSub])
    refine awP (op_assign rfl rfl) ?_
    refine AWL.nil ?_
    (refine hK _ ?_; clear hK K; (simp only [nA, Nat.reduceBEq, Nat.reduceEqDiff, ↓reduceIte, Nat.reduceAdd, Nat.reduceSub]))
    refine AW.gh (Gh.cell0 (r := 1) (A := none) (c := 0) (row := [.v (.int .i64 0), .v (.int .i64 0), .v (.int .i64 0), .v (.bool false), .v (.slice none 0 0), .v (.slice none 0 0), .v (.slice none 0 0)]) 0 4 rfl rfl rfl (by decide) rfl) ?_; refine AW.gh (Gh.cell0 (r := 1) (A := none) (c := 0) (row := [.v (.int .i64 0), .v (.int .i64 0), .v (.int .i64 0), .v (.bool false), .ro [], .v (.slice none 0 0), .v (.slice none 0 0)]) 0 5 rfl rfl rfl (by decide) rfl) ?_; refine AW.gh (Gh.cell0 (r := 1) (A := none) (c := 0) (row := [.v (.int .i64 0), .v (.int .i64 0), .v (.int .i64 0), .v (.bool false), .ro [], .ro [], .v (.slice none 0 0)]) 0 6 rfl rfl rfl (by decide) rfl) ?_; (simp only [nA, Nat.reduceBEq, Nat.reduceEqDiff, ↓reduceIte, Nat.reduceAdd, Nat.reduceSub])
    refine AW.ret ?_; (simp only [thenE, inBlk, Nat.reduceEqDiff, ↓reduceIte]); rw [off_err (h := (onH nb nx ls)) (e := 9) (by unfold offE; rw [if_neg g1, if_neg g2, if_neg g3, grsE_at hlt hi.2 e1 (by decide), if_pos (by decide)]) (by decide)]; exact RQ.of0 rfl (.cell (bl rfl) rfl rfl rfl ag26 sz26 (bl rfl) rfl rfl (.tmp (bl rfl) rfl rfl .nil))
   have hc6 := hc; have e1 : grErr g i = 0 := (by unfold grErr; rw [if_neg e5, if_neg (by rw [show (decide ((i : Int) > 0) && decide (cmpP (g.getD (i - 1) default).piece.plate (g.getD i default).piece.plate ≥ 0)) = false from hc6]; decide)])
   refine AW.skip ?_
   simp only [thenE, inBlk, Nat.reduceEqDiff, ↓reduceIte]
   (refine hK _ ?_; clear hK K; (skip))
   refine AW.region ?_
   refine awP (op_move rfl rfl) ?_
   (refine awP (op_addi rfl rfl rfl (by omega)) ?_)
   refine awP (op_assign rfl rfl) ?_
   skip
   refine AWL.nil ?_
   refine ⟨i + 1, ⟨by omega, all_step hi.2 e1⟩, by omega, ⟨rfl, rfl, rfl, rfl, rfl, trivial⟩, (by rfl), (by rfl)⟩
  have hc4 := hc; have hnl : ¬ i < g.length := (by simpa using hc4); have g4 : ¬ (grsE g ≠ 0) := (by rw [grsE_ok hnl hi.2]; decide)
  refine AW.exit ?_; (simp only [thenE, inBlk, Nat.reduceEqDiff, ↓reduceIte])
  clear hK K
  (refine hK _ ?_; clear hK K; (skip))
  (refine AW.seq_k ?_; intro K hK)
  (refine AW.seq_k ?_; intro K hK)
  refine AW.region ?_
  refine awP (op_move rfl rfl) ?_
  refine awJ (OpQ.j (op_callQ (b := true) rfl en52 (C52 (xs := c) (by omega) hcp) (RL.cons (by exact View.same rfl) (RL.nil)) rfl)) ?_; (simp only [nA, ↓reduceIte])
  refine awP (op_assign rfl rfl) ?_
  refine AWL.nil ?_
  (refine hK _ ?_; clear hK K; (simp only [nA]))
  (refine AW.seq_k ?_; intro K hK)
  refine AW.region ?_
  refine awP (op_move rfl rfl) ?_
  (refine awP (op_neq rfl rfl rfl) ?_)
  refine AWL.nil ?_
  (refine hK _ ?_; clear hK K; (simp only [nA]))
  refine AW.cond rfl rfl rfl (fun hc => ?_) (fun hc => ?_)
  ·
   have hc7 := hc; have g5 : chkL c ≠ 0 := (by simpa using hc7)
   (refine AW.seq_k ?_; intro K hK)
   refine AW.region ?_
   refine awP (op_build2 (xs := [.v (.int .i64 0), .v (.int .i64 0), .v (.int .i64 0), .v (.bool false), .v (.slice none 0 0), .v (.slice none 0 0), .v (.slice none 0 0)]) rfl pl26 ze26 [] rfl rfl rfl) ?_
   refine awP (op_move rfl rfl) ?_
   refine awJ (op_store rfl rfl rfl rfl rfl rfl sz26 rfl (bl rfl) rfl) ?_; (simp only [nA, ↓reduceIte])
   refine awP (op_assign rfl rfl) ?_
   refine AWL.nil ?_
   (refine hK _ ?_; clear hK K; (simp only [nA]))
   refine AW.gh (Gh.cell0 (r := 1) (A := none) (c := 0) (row := [.v (.int .i64 0), .v (.int .i64 0), .v (.int .i64 0), .v (.bool false), .v (.slice none 0 0), .v (.slice none 0 0), .v (.slice none 0 0)]) 0 4 rfl rfl rfl (by decide) rfl) ?_; refine AW.gh (Gh.cell0 (r := 1) (A := none) (c := 0) (row := [.v (.int .i64 0), .v (.int .i64 0), .v (.int .i64 0), .v (.bool false), .ro [], .v (.slice none 0 0), .v (.slice none 0 0)]) 0 5 rfl rfl rfl (by decide) rfl) ?_; refine AW.gh (Gh.cell0 (r := 1) (A := none) (c := 0) (row := [.v (.int .i64 0), .v (.int .i64 0), .v (.int .i64 0), .v (.bool false), .ro [], .ro [], .v (.slice none 0 0)]) 0 6 rfl rfl rfl (by decide) rfl) ?_; (simp only [nA, Nat.reduceBEq, Nat.reduceEqDiff, ↓reduceIte, Nat.reduceAdd, Nat.reduceSub])
   refine AW.ret ?_; (simp only [thenE, inBlk, Nat.reduceEqDiff, ↓reduceIte]); rw [off_err (h := (onH nb nx ls)) (e := chkL c) (by unfold offE; rw [if_neg g1, if_neg g2, if_neg g3, if_neg g4]) g5]; exact RQ.of0 rfl (.cell (bl rfl) rfl rfl rfl ag26 sz26 (bl rfl) rfl rfl (.tmp (bl rfl) rfl rfl .nil))
  have hc7 := hc; have g5 : chkL c = 0 := (by simpa using hc7)
  refine AW.skip ?_
  (refine hK _ ?_; clear hK K; (skip))
  (refine AW.seq_k ?_; intro K hK)
  refine AW.region ?_
  refine awJ (op_lit0 rfl Try.underlying22 sz75) ?_; (simp only [nA, Nat.reduceBEq, Nat.reduceEqDiff, ↓reduceIte, Nat.reduceAdd, Nat.reduceSub])
  refine awP (op_move rfl rfl) ?_
  refine awJ (op_app_rof (es := []) (rows := g.map Grant.av) rfl rfl rfl .ro Try.underlying22 ze75 (by decide) (by simp) (gav_len _) (by simp; omega) (by decide) (List.nil_append _)) ?_; (simp only [nA, ↓reduceIte])
  (refine awP (op_fa_ptr rfl rfl rfl fl26_3 (by exact sz4) (by decide) rfl) ?_)
  refine awJ (op_store rfl rfl rfl rfl rfl rfl sz4 rfl (bl rfl) rfl) ?_; (simp only [nA, Nat.reduceBEq, Nat.reduceEqDiff, ↓reduceIte, Nat.reduceAdd, Nat.reduceSub])
  (refine awP (op_fa_ptr rfl rfl rfl fl26_4 (by exact sz22) (by decide) rfl) ?_)
  refine awJ (op_store rfl rfl rfl rfl rfl rfl sz22 rfl (bl rfl) rfl) ?_; (simp only [nA, ↓reduceIte])
  refine AWL.nil ?_
  (refine hK _ ?_; clear hK K; (skip))
  (refine AW.seq_k ?_; intro K hK)
  (refine AW.seq_k ?_; intro K hK)
  refine AW.region ?_
  refine awP (op_assign rfl rfl) ?_
  refine AWL.nil ?_
  (refine hK _ ?_; clear hK K; (simp only [nA, Nat.reduceBEq, Nat.reduceEqDiff, ↓reduceIte, Nat.reduceAdd, Nat.reduceSub]))
  refine AW.block ?_
  refine AW.gh (Gh.slot2 (r := 0) (es' := [rowO nb nx ls g (.own 77 [])]) rfl rfl (rowO_le nb nx ls g)) ?_; (simp only [nA, Nat.reduceBEq, Nat.reduceEqDiff, ↓reduceIte, Nat.reduceAdd, Nat.reduceSub]); refine AW.loopI (fun (q : Nat × Nat) => [(2, .ro (c.map Container.av)), (3, .ptr 0 1 0 0), (6, .ptr 1 2 0 0), (11, .v (.int .i64 (q.1 : Nat)))]) (fun q => ⟨[(1, .own 26 [rowO nb nx ls g (.own 77 (((c.take q.1).map bareC).map Container.av))]), (2, .own 26 [[.v (.int .i64 0), .v (.int .i64 0), .v (.int .i64 0), .v (.bool false), .v (.slice none 0 0), .v (.slice none 0 0), .v (.slice none 0 0)]])], q.2⟩) (fun q => q.1 ≤ c.length) (fun q => c.length - q.1) (0, 3) (by simp) ⟨rfl, rfl, rfl, rfl, trivial⟩ rfl ?_; rintro ⟨i, ep⟩ ρ hj; dsimp only at hj ⊢; simp only [updL]
  (refine AW.seq_k ?_; intro K hK)
  (refine AW.seq_k ?_; intro K hK)
  refine AW.region ?_
  refine awP (op_move rfl rfl) ?_
  refine awP (op_move rfl rfl) ?_
  refine awP (op_len_ro (n := c.length) rfl rfl Try.underlying23 (.inr (.inl ⟨_, rfl, by simp⟩))) ?_
  refine awP (op_lss rfl rfl rfl) ?_
  refine AWL.nil ?_
  (refine hK _ ?_; clear hK K; (simp only [nA, ↓reduceIte]))
  refine AW.cond rfl rfl rfl (fun hc => ?_) (fun hc => ?_)
  ·
   have hc8 := hc; have hlt : i < c.length := (by simpa using hc8)
   refine AW.skip ?_
   (refine hK _ ?_; clear hK K; (skip))
   (refine AW.seq_k ?_; intro K hK)
   refine AW.block ?_
   (refine AW.seq_k ?_; intro K hK)
   refine AW.region ?_
   refine awP (op_move rfl rfl) ?_
   refine awP (op_move rfl rfl) ?_
   refine awP (op_ia_ro i rfl (.inl rfl) rfl Try.underlying23 rfl (get_mapD (by omega)) (by exact sz77) (bl rfl)) ?_
   (refine awR (op_load_rop rfl rfl ag77 sz77 (bl rfl) (by decide) rfl) ?_)
   refine awJ (op_alloc rfl ze77 rfl) ?_; (simp only [nA, Nat.reduceBEq, Nat.reduceEqDiff, ↓reduceIte])
   refine awJ (op_store rfl rfl rfl rfl rfl rfl sz77 rfl (bl rfl) rfl) ?_; (simp only [nA, Nat.reduceBEq, Nat.reduceEqDiff, ↓reduceIte])
   refine AWL.nil ?_
   (refine hK _ ?_; clear hK K; (skip))
   (refine AW.seq_k ?_; intro K hK)
   refine AW.region ?_
   (refine awP (op_fa_ptr rfl rfl rfl fl77_7 (by exact sz53) (by decide) rfl) ?_)
   refine awJ (op_store rfl rfl rfl rfl rfl rfl sz53 rfl (bl rfl) rfl) ?_; (simp only [nA, Nat.reduceBEq, Nat.reduceEqDiff, ↓reduceIte, Nat.reduceAdd, Nat.reduceSub]); refine AWL.gh (Gh.cell0 (r := 2) (A := none) (c := 0) (row := nilC (c.getD i default)) 0 10 rfl rfl rfl (by decide) rfl) ?_; (simp only [nA, Nat.reduceBEq, Nat.reduceEqDiff, ↓reduceIte, Nat.reduceAdd, Nat.reduceSub])
   refine AWL.nil ?_
   (refine hK _ ?_; clear hK K; (skip))
   refine AW.region ?_
   (refine awP (op_fa_ptr rfl rfl rfl fl26_5 (by exact sz23) (by decide) rfl) ?_)
   refine awJ (op_load_nest rfl rfl rfl rfl ag23 rfl rfl) ?_; (simp only [nA, Nat.reduceBEq, Nat.reduceEqDiff, ↓reduceIte])
   (refine awR (op_load_ptr rfl rfl rfl rfl ag77 sz77 (bl rfl) rfl) ?_)
   refine awJ (OpJ.frz (op_buildSlice rfl [(0, ((bareC (c.getD i default))).av)] [((bareC (c.getD i default))).av] Try.underlying23 ze77 rfl (by simp) rfl (by simp) rfl (bl rfl) (by simp [maxLen])) (conv_flat [(bareC (c.getD i default))]) rfl) ?_; (simp only [nA, Nat.reduceBEq, Nat.reduceEqDiff, ↓reduceIte, Nat.reduceAdd, Nat.reduceSub])
   refine awJ (op_app (r := 3) (rows := [((bareC (c.getD i default))).av]) rfl rfl rfl rfl (by simp) .ro Try.underlying23 ze77 (by decide) (conv_len [(bareC (c.getD i default))]) (by simp; omega) (by decide) (bare_take hlt) (n := i + 1) (by simp; omega)) ?_; (simp only [nA, Nat.reduceBEq, Nat.reduceEqDiff, ↓reduceIte, Nat.reduceAdd, Nat.reduceSub])
   (refine awP (op_fa_ptr rfl rfl rfl fl26_5 (by exact sz23) (by decide) rfl) ?_)
   refine awJ (op_store_nest (r := 0) (q := 3) rfl rfl rfl rfl (row := rowO nb nx ls g (.sln (c.take i).length)) rfl sz23 rfl (by decide) (by simp; omega) (by simp) rfl) ?_; (simp only [nA, Nat.reduceBEq, Nat.reduceEqDiff, ↓reduceIte, Nat.reduceAdd, Nat.reduceSub])
   refine AWL.nil ?_
   simp only [thenE, inBlk, Nat.reduceEqDiff, ↓reduceIte]
   (refine hK _ ?_; clear hK K; (skip))
   refine AW.region ?_
   refine awP (op_move rfl rfl) ?_
   (refine awP (op_addi rfl rfl rfl (by omega)) ?_)
   refine awP (op_assign rfl rfl) ?_
   refine AWL.gh (Gh.drop 2) ?_; (simp only [nA, ↓reduceIte])
   refine AWL.nil ?_
   refine ⟨(i + 1, _), by dsimp only; omega, by dsimp only; omega, ⟨rfl, rfl, rfl, rfl, trivial⟩, (by rfl), (by rfl)⟩
  have hc8 := hc; have hnl : ¬ i < c.length := (by simpa using hc8); obtain rfl : i = c.length := (by omega)
  refine AW.exit ?_; (simp only [thenE, inBlk, Nat.reduceEqDiff, ↓reduceIte])
  clear hK K
  (refine hK _ ?_; clear hK K; (skip))
  (refine AW.seq_k ?_; intro K hK)
  refine AW.region ?_
  refine AWL.gh (Gh.cell0 (r := 0) (A := none) (c := 0) (row := rowO nb nx ls g (.own 77 (((c.take c.length).map bareC).map Container.av))) 0 6 rfl rfl rfl (by decide) rfl) ?_; (simp only [nA, Nat.reduceBEq, Nat.reduceEqDiff, ↓reduceIte, Nat.reduceAdd, Nat.reduceSub]); refine AWL.gh (Gh.freezeC (r := 0) (row := (rowO nb nx ls g (.own 77 (((c.take c.length).map bareC).map Container.av))).set 6 (.ro [])) 0 5 rfl rfl rfl (conv_flat _) rfl) ?_; simp only [List.take_length]; (simp only [nA, Nat.reduceBEq, Nat.reduceEqDiff, ↓reduceIte, Nat.reduceAdd, Nat.reduceSub]); refine awR (op_load_ptr rfl rfl rfl rfl ag26 sz26 (bl rfl) rfl) ?_; (simp only [nA, Nat.reduceBEq, Nat.reduceEqDiff, ↓reduceIte, Nat.reduceAdd, Nat.reduceSub])
  refine awJ (op_store rfl rfl rfl rfl rfl rfl sz26 rfl (bl rfl) rfl) ?_; (simp only [nA, Nat.reduceBEq, Nat.reduceEqDiff, ↓reduceIte, Nat.reduceAdd, Nat.reduceSub])
  refine awP (op_assign rfl rfl) ?_
  refine AWL.nil ?_
  (refine hK _ ?_; clear hK K; (simp only [nA, Nat.reduceBEq, Nat.reduceEqDiff, ↓reduceIte, Nat.reduceAdd, Nat.reduceSub]))
  skip
  refine AW.ret ?_; rw [off_ok (h := (onH nb nx ls)) (by unfold offE; rw [if_neg g1, if_neg g2, if_neg g3, if_neg g4, g5])]; exact RQ.of0 rfl (.cell (bl rfl) rfl rfl rfl ag26 sz26 (bl rfl) rfl rfl (.tmp (bl rfl) rfl rfl .nil))
end Go.Proofs.Ytdnofpggdddimaa
