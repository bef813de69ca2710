import Derived.Test.YtmdohphcolffmaaSpe
import Derived.Sort.AssemblyPlain
namespace Go.Proofs.Ytmdohphcolffmaa
open Go.RowKit
set_option linter.unusedSimpArgs false
set_option linter.unusedVariables false
set_option maxRecDepth 100000
set_option maxHeartbeats 8000000 in
theorem C87i {u : Value} {d : Array Piece} {l h g : Int} (lo hi f : Nat) (e1 : l = lo) (e2 : h = hi) (e3 : g = f) (hlo : lo ≤ 1000) (hb : f + hi ≤ d.size) (hl : d.size ≤ 1000) : Fn Try.prog 87 [srt u d] [.agg (dataW u), .v (.int .i64 l), .v (.int .i64 h), .v (.int .i64 g)] [] [srt u (Go.Sort.siftDown befB hi f lo d)] := by
  subst e1 e2 e3; exact C87 hlo hb hl
theorem en87 : Enters Try.prog 87 := enters_of Try.func87 (by kernel_rfl) rfl
set_option maxHeartbeats 8000000 in
theorem C75 {u : Value} {d : Array Piece} {a b : Nat} (hab : a < b) (hb : b ≤ d.size) (hl : d.size ≤ 1000) : Fn Try.prog 75 [srt u d] [.agg (dataW u), .v (.int .i64 a), .v (.int .i64 b)] [] [srt u (Go.Sort.heapSort befB d a b)] := by
  refine Spec.body Try.func75 rfl Try.ntmps75 (by simp) rfl ?_; intro S0 own0 v0 w0
  (refine AW.seq_k ?_; intro K hK)
  refine AW.region ?_
  refine awJ (op_box rfl rfl rfl sz104 rfl) ?_; (simp only [nA, Nat.reduceBEq, Nat.reduceEqDiff, ↓reduceIte])
  refine AWL.nil ?_
  (refine hK _ ?_; clear hK K; (try simp only [nA, Nat.reduceBEq, Nat.reduceEqDiff, ↓reduceIte, Nat.reduceAdd, Nat.reduceSub]))
  (refine AW.seq_k ?_; intro K hK)
  refine AW.region ?_
  refine awP (op_move rfl rfl) ?_; (simp only [nA, ↓reduceIte])
  refine awP (op_assign rfl rfl) ?_; (simp only [nA])
  refine AWL.nil ?_
  (refine hK _ ?_; clear hK K; (skip))
  (refine AW.seq_k ?_; intro K hK)
  refine AW.region ?_
  refine awP (op_assign rfl rfl) ?_; (try simp only [nA, Nat.reduceBEq, Nat.reduceEqDiff, ↓reduceIte, Nat.reduceAdd, Nat.reduceSub])
  refine AWL.nil ?_
  (refine hK _ ?_; clear hK K; (skip))
  (refine AW.seq_k ?_; intro K hK)
  refine AW.region ?_
  refine awP (op_move rfl rfl) ?_; (simp only [nA, ↓reduceIte])
  refine awP (op_move rfl rfl) ?_; (simp only [nA, ↓reduceIte])
  (refine awP (op_subi rfl rfl rfl (by omega)) ?_); (try simp only [nA, Nat.reduceBEq, Nat.reduceEqDiff, ↓reduceIte, Nat.reduceAdd, Nat.reduceSub])
  refine awP (op_assign rfl rfl) ?_; (simp only [nA])
  refine AWL.nil ?_
  (refine hK _ ?_; clear hK K; (skip))
  (refine AW.seq_k ?_; intro K hK)
  (refine AW.seq_k ?_; intro K hK)
  refine AW.region ?_
  refine awP (op_move rfl rfl) ?_; (simp only [nA])
  (refine awP (op_subi rfl rfl rfl (by omega)) ?_); (try simp only [nA, Nat.reduceBEq, Nat.reduceEqDiff, ↓reduceIte, Nat.reduceAdd, Nat.reduceSub])
  (refine awP (op_quoi rfl rfl rfl (by omega)) ?_); (try simp only [nA, Nat.reduceBEq, Nat.reduceEqDiff, ↓reduceIte, Nat.reduceAdd, Nat.reduceSub])
  refine awP (op_assign rfl rfl) ?_; (simp only [nA])
  refine AWL.nil ?_
  (refine hK _ ?_; clear hK K; (skip))
  refine AW.block ?_
  refine AW.loopI (fun (q : Nat × Array Piece) => [(3, .ptr 1 1 0 0), (6, .v (.int .i64 a)), (7, .v (.int .i64 0)), (8, .v (.int .i64 ((b - a : Nat) : Int))), (9, .v (.int .i64 ((q.1 : Nat) - 1 : Int)))]) (fun q => ⟨[(0, srt u q.2), (1, .own 104 [dataW u])], 2⟩) (fun q => q.1 ≤ (b - a - 1) / 2 + 1 ∧ q.2.size = d.size ∧ Go.Sort.heapBuild befB (b - a) a q.1 q.2 = Go.Sort.heapBuild befB (b - a) a ((b - a - 1) / 2 + 1) d) (fun q => q.1) ((b - a - 1) / 2 + 1, d) ⟨by omega, rfl, rfl⟩ ⟨rfl, rfl, rfl, vint (by omega), vint (by omega), trivial⟩ rfl ?_; rintro ⟨k, dk⟩ ρ ⟨hk, hs, hO⟩; dsimp only at hk hs hO ⊢; simp only [updL]
  (refine AW.seq_k ?_; intro K hK)
  (refine AW.seq_k ?_; intro K hK)
  refine AW.region ?_
  refine awP (op_move rfl rfl) ?_; (simp only [nA, ↓reduceIte])
  refine awP (op_geq rfl rfl rfl) ?_; (try simp only [nA, Nat.reduceBEq, Nat.reduceEqDiff, ↓reduceIte, Nat.reduceAdd, Nat.reduceSub])
  refine AWL.nil ?_
  (refine hK _ ?_; clear hK K; (skip))
  refine AW.cond rfl rfl rfl (fun hc => ?_) (fun hc => ?_)
  ·
   (try simp only [hcS] at hc); have hc1 := hc; have hk0 : 0 < k := by omega
   refine AW.skip ?_
   (refine hK _ ?_; clear hK K; (skip))
   (refine AW.seq_k ?_; intro K hK)
   refine AW.block ?_
   refine AW.region ?_
   (refine awR (op_load_ptr rfl rfl rfl rfl ag104 sz104 (bl rfl) rfl) ?_); (try simp only [nA, Nat.reduceBEq, Nat.reduceEqDiff, ↓reduceIte, Nat.reduceAdd, Nat.reduceSub])
   refine awP (op_move rfl rfl) ?_; (simp only [nA, ↓reduceIte])
   refine awP (op_move rfl rfl) ?_; (simp only [nA, ↓reduceIte])
   refine awP (op_move rfl rfl) ?_; (simp only [nA, ↓reduceIte])
   refine awJ (op_callN (r := 0) rfl en87 (C87i (d := dk) (k - 1) (b - a) a (by omega) (by omega) (by omega) (by omega) (by omega) (by omega)) rfl (RL.cons (.base (.same rfl)) (RL.cons (.base (.same rfl)) (RL.cons (.base (.same rfl)) (RL.cons (.base (.same rfl)) RL.nil)))) ⟨_, _, _, _, rfl, rfl⟩ rfl rfl rfl) ?_; (try simp only [nA, Nat.reduceBEq, Nat.reduceEqDiff, ↓reduceIte, Nat.reduceAdd, Nat.reduceSub])
   refine AWL.nil ?_
   (try simp only [thenE, inBlk, Nat.reduceEqDiff, ↓reduceIte])
   (refine hK _ ?_; clear hK K; (skip))
   refine AW.region ?_
   refine awP (op_move rfl rfl) ?_; (simp only [nA, ↓reduceIte])
   (refine awP (op_subi rfl rfl rfl (by omega)) ?_); (try simp only [nA, Nat.reduceBEq, Nat.reduceEqDiff, ↓reduceIte, Nat.reduceAdd, Nat.reduceSub])
   refine awP (op_assign rfl rfl) ?_; (simp only [nA])
   skip
   refine AWL.nil ?_
   refine ⟨(k - 1, Go.Sort.siftDown befB (b - a) a (k - 1) dk), ⟨by omega, by rw [size_sift _ _ _ rfl, hs], ?_⟩, by omega, ⟨rfl, rfl, rfl, rfl, vint (by omega), trivial⟩, rfl, (by rfl)⟩; rw [← hO]; obtain ⟨k, rfl⟩ : ∃ q, k = q + 1 := ⟨k - 1, by omega⟩; rfl
  (try simp only [hcS] at hc); have hc1 := hc; have hk0 : k = 0 := (by omega); subst hk0
  refine AW.exit ?_; (try simp only [thenE, inBlk, Nat.reduceEqDiff, ↓reduceIte])
  clear hK K
  (refine hK _ ?_; clear hK K; (skip))
  (refine AW.seq_k ?_; intro K hK)
  refine AW.region ?_
  refine awP (op_move rfl rfl) ?_; (simp only [nA, ↓reduceIte])
  (refine awP (op_subi rfl rfl rfl (by omega)) ?_); (try simp only [nA, Nat.reduceBEq, Nat.reduceEqDiff, ↓reduceIte, Nat.reduceAdd, Nat.reduceSub])
  refine awP (op_assign rfl rfl) ?_; (simp only [nA])
  refine AWL.nil ?_
  (refine hK _ ?_; clear hK K; (skip))
  refine AW.block ?_
  refine AW.loopI (fun (q : Nat × Array Piece) => [(3, .ptr 1 1 0 0), (6, .v (.int .i64 a)), (7, .v (.int .i64 0)), (8, .v (.int .i64 ((b - a : Nat) : Int))), (10, .v (.int .i64 ((q.1 : Nat) - 1 : Int)))]) (fun q => ⟨[(0, srt u q.2), (1, .own 104 [dataW u])], 2⟩) (fun q => q.1 ≤ b - a ∧ q.2.size = d.size ∧ Go.Sort.heapPop befB a q.1 q.2 = Go.Sort.heapSort befB d a b) (fun q => q.1) (b - a, dk) ⟨by omega, hs, by unfold Go.Sort.heapSort; rw [← hO]; rfl⟩ ⟨rfl, rfl, rfl, rfl, vint (by omega), trivial⟩ rfl ?_; rintro ⟨m, dm⟩ ρ ⟨hm, hs2, hP⟩; dsimp only at hm hs2 hP ⊢; simp only [updL]
  (refine AW.seq_k ?_; intro K hK)
  (refine AW.seq_k ?_; intro K hK)
  refine AW.region ?_
  refine awP (op_move rfl rfl) ?_; (simp only [nA, ↓reduceIte])
  refine awP (op_geq rfl rfl rfl) ?_; (try simp only [nA, Nat.reduceBEq, Nat.reduceEqDiff, ↓reduceIte, Nat.reduceAdd, Nat.reduceSub])
  refine AWL.nil ?_
  (refine hK _ ?_; clear hK K; (skip))
  refine AW.cond rfl rfl rfl (fun hc => ?_) (fun hc => ?_)
  ·
   (try simp only [hcS] at hc); have hc2 := hc; have hm0 : 0 < m := by omega
   refine AW.skip ?_
   (refine hK _ ?_; clear hK K; (skip))
   (refine AW.seq_k ?_; intro K hK)
   refine AW.block ?_
   (refine AW.seq_k ?_; intro K hK)
   refine AW.region ?_
   (refine awP (op_fa_ptr rfl rfl rfl fl104_1 (by exact sz2) (by decide) rfl) ?_); (try simp only [nA, Nat.reduceBEq, Nat.reduceEqDiff, ↓reduceIte, Nat.reduceAdd, Nat.reduceSub])
   (refine awR (op_load_ptr1 rfl rfl rfl rfl ag98 rfl rfl) ?_); (try simp only [nA, Nat.reduceBEq, Nat.reduceEqDiff, ↓reduceIte, Nat.reduceAdd, Nat.reduceSub])
   refine awP (op_move rfl rfl) ?_; (simp only [nA, ↓reduceIte])
   refine awP (op_move rfl rfl) ?_; (simp only [nA, ↓reduceIte])
   refine awP (op_move rfl rfl) ?_; (simp only [nA, ↓reduceIte])
   (refine awP (op_addi rfl rfl rfl (by omega)) ?_); (try simp only [nA, Nat.reduceBEq, Nat.reduceEqDiff, ↓reduceIte, Nat.reduceAdd, Nat.reduceSub])
   refine awJ (op_sw (r := 0) (d := dm) rfl rfl rfl rfl rfl (by omega) (by omega) rfl) ?_; (try simp only [nA, Nat.reduceBEq, Nat.reduceEqDiff, ↓reduceIte, Nat.reduceAdd, Nat.reduceSub])
   refine AWL.nil ?_
   (refine hK _ ?_; clear hK K; (skip))
   refine AW.region ?_
   (refine awR (op_load_ptr rfl rfl rfl rfl ag104 sz104 (bl rfl) rfl) ?_); (try simp only [nA, Nat.reduceBEq, Nat.reduceEqDiff, ↓reduceIte, Nat.reduceAdd, Nat.reduceSub])
   refine awP (op_move rfl rfl) ?_; (simp only [nA, ↓reduceIte])
   refine awP (op_move rfl rfl) ?_; (simp only [nA, ↓reduceIte])
   refine awP (op_move rfl rfl) ?_; (simp only [nA, ↓reduceIte])
   refine awJ (op_callN (r := 0) rfl en87 (C87i (d := Go.Sort.swp dm ((a : Int)).toNat ((a : Int) + ((m : Int) - 1)).toNat) 0 (m - 1) a (by omega) (by omega) (by omega) (by omega) (by rw [Go.Sort.size_swp]; omega) (by rw [Go.Sort.size_swp]; omega)) rfl (RL.cons (.base (.same rfl)) (RL.cons (.base (.same rfl)) (RL.cons (.base (.same rfl)) (RL.cons (.base (.same rfl)) RL.nil)))) ⟨_, _, _, _, rfl, rfl⟩ rfl rfl rfl) ?_; (try simp only [nA, Nat.reduceBEq, Nat.reduceEqDiff, ↓reduceIte, Nat.reduceAdd, Nat.reduceSub])
   refine AWL.nil ?_
   (try simp only [thenE, inBlk, Nat.reduceEqDiff, ↓reduceIte])
   (refine hK _ ?_; clear hK K; (skip))
   refine AW.region ?_
   refine awP (op_move rfl rfl) ?_; (simp only [nA, ↓reduceIte])
   (refine awP (op_subi rfl rfl rfl (by omega)) ?_); (try simp only [nA, Nat.reduceBEq, Nat.reduceEqDiff, ↓reduceIte, Nat.reduceAdd, Nat.reduceSub])
   refine awP (op_assign rfl rfl) ?_; (simp only [nA])
   skip
   refine AWL.nil ?_
   refine ⟨(m - 1, Go.Sort.siftDown befB (m - 1) a 0 (Go.Sort.swp dm a (a + (m - 1)))), ⟨by omega, by rw [size_sift _ _ _ rfl, Go.Sort.size_swp, hs2], ?_⟩, by omega, ⟨rfl, rfl, rfl, rfl, vint (by omega), trivial⟩, (by rw [show ((a : Int)).toNat = a by omega, show ((a : Int) + ((m : Int) - 1)).toNat = a + (m - 1) by omega]), (by rfl)⟩; rw [← hP]; obtain ⟨m, rfl⟩ : ∃ q, m = q + 1 := ⟨m - 1, by omega⟩; rfl
  (try simp only [hcS] at hc); have hc2 := hc; have hm0 : m = 0 := (by omega); subst hm0
  refine AW.exit ?_; (try simp only [thenE, inBlk, Nat.reduceEqDiff, ↓reduceIte])
  clear hK K
  rw [← hP]; exact RQ.of (.inr rfl) rfl .nil (by simp) rfl (one_out rfl)
end Go.Proofs.Ytmdohphcolffmaa
namespace Go.Proofs.Ytmdohphcolffmaa
open Go.RowKit Go.Shelf
section
open Go.Sort
theorem Fn.ofK {f : FuncId} {u : Value} {d d' : Array Piece} {x y : Value} (h0 : 0 < d.size) (hs : d'.size = d.size)
    (hK : ∀ (w : World) (blk c : Nat) (lb : Array Value), u = .slice (some ⟨blk, 0, none⟩) d.size c → HoldsK encP 5 w blk 0 d → blk < w.heap.size →
      Calls Try.prog f #[.agg #[.func (.func 35) #[] lb, .func (.func 71) #[] #[.slice (some ⟨blk, 0, none⟩) d.size c, th41]], x, y] w fun e w' => e = .returned (.tuple #[]) ∧ ∃ n os, w' = sortWorldK encP 5 w blk 0 n d' os) :
    Fn Try.prog f [srt u d] [.agg (dataW u), .v x, .v y] [] [srt u d'] := by
  intro w S vals bss vs hc
  obtain ⟨v, rfl⟩ : ∃ v, vals = [v] := by
    match vals, hc.nv with
    | [v], _ => exact ⟨v, rfl⟩
  obtain ⟨bs, rfl⟩ : ∃ b, bss = [b] := by
    match bss, hc.nb with
    | [b], _ => exact ⟨b, rfl⟩
  have hrep := hc.rep 0 _ v bs rfl rfl rfl
  have hnm : v = u ∧ Rep Try.prog S w bs u (.own 41 (rowsP d)) := by
    cases hrep with
    | nm h => exact ⟨rfl, h⟩
  obtain ⟨rfl, hr1⟩ := hnm
  obtain ⟨g, cap, cur, hu, hg, c1, c2, c3, c4, hbs⟩ := repK_inv (enc := encP) (k := 5) (ds := d.toList) (fun _ => rfl) hr1 sz41 (by simpa using h0)
  subst hbs
  obtain ⟨v1, v2, v3, rfl⟩ : ∃ v1 v2 v3, vs = [v1, v2, v3] := by
    match vs, hc.args.1 with
    | [v1, v2, v3], _ => exact ⟨v1, v2, v3, rfl⟩
  obtain ⟨us, rfl, rl⟩ := (show ∃ us, v1 = .agg us ∧ RL (RefOK Try.prog S w (insT [srt v d]) [v]) us.toList (dataW v) from hc.args.2 0 v1 _ rfl rfl)
  have e2 : v2 = x := (show Rep Try.prog S w [] v2 (.v x) from hc.args.2 1 v2 _ rfl rfl).v_inv.1
  have e3 : v3 = y := (show Rep Try.prog S w [] v3 (.v y) from hc.args.2 2 v3 _ rfl rfl).v_inv.1
  subst e2 e3
  obtain ⟨us, rfl⟩ : ∃ l : List Value, us = l.toArray := ⟨us.toList, by simp⟩
  simp only [List.toList_toArray] at rl
  obtain ⟨f1, f2, rfl⟩ : ∃ f1 f2, us = [f1, f2] := by
    match us, rl.1 with
    | [f1, f2], _ => exact ⟨f1, f2, rfl⟩
  obtain ⟨lb, rfl, -, -⟩ := (show Rep Try.prog S w [] f1 (.clo 35 [.rop [.v v]]) from rl.2 0 f1 _ rfl rfl).clo_inv
  obtain ⟨sb, rfl, sl, sr⟩ := (show Rep Try.prog S w [] f2 (.clo 71 [.v v, .v th41]) from rl.2 1 f2 _ rfl rfl).clo_inv
  obtain ⟨s1, s2, rfl⟩ : ∃ s1 s2, sb = [s1, s2] := by
    match sb, sl with
    | [s1, s2], _ => exact ⟨s1, s2, rfl⟩
  have e4 := (sr 0 s1 (.v v) rfl rfl).v_inv.1
  have e5 := (sr 1 s2 (.v th41) rfl rfl).v_inv.1
  subst e4 e5
  have hld : d.toList.length = d.size := Array.length_toList
  rw [hld] at hu c1 c4
  subst hu
  have hH : HoldsK encP 5 w g 0 d := by
    have := holdsKE (enc := encP) (k := 5) (ds := d.toList) (fun _ => rfl) hg (by rw [hld]; exact c4)
    simpa using this
  have hlt : g < w.heap.size := (Array.getElem?_eq_some_iff.1 hg).1
  refine (hK w g cap lb.toArray rfl hH hlt).mono ?_
  rintro e w' ⟨rfl, n, os, rfl⟩
  have hin : ∀ q, InL [[g]] q ↔ q = g := fun q => by
    constructor
    · rintro ⟨i, b1, h1, h2⟩
      cases i with
      | zero => simp at h1; subst h1; simpa using h2
      | succ i => simp at h1
    rintro rfl; exact ⟨0, [q], rfl, by simp⟩
  have hkept : Kept (fun q => q ≠ g) w (sortWorldK encP 5 w g 0 n d' os) := keptE (enc := id) (flatK encP 5 d')
  have hhp := heapE (enc := id) (n := n) (os := os) (flatK encP 5 d') hg
  have hld' : d'.toList.length = d'.size := Array.length_toList
  refine ⟨[], [], [srt (.slice (some ⟨g, 0, none⟩) d.size cap) d'], [], [[g]], rfl, ⟨hkept.mono fun q _ h e => h ((hin q).2 e), rfl, rfl, rfl, rfl, fun i u y bs h => by simp at h, fun r x v bs h1 h2 h3 => ?_, ⟨fun r b h => ?_, fun r r' b b' hne h1 h2 => ?_⟩, fun b h => .inr h⟩, rfl, rfl⟩
  · cases r with
    | succ r => simp at h1
    | zero =>
      simp at h1 h2 h3
      subst h1 h2 h3
      have ht := takeKE (enc := encP) (k := 5) (fun _ => rfl) cur d'.toList (by rw [hld', hs, c3]; omega)
      have := repK (enc := encP) (k := 5) (P := Try.prog) (S := After S w (sortWorldK encP 5 w g 0 n d' os) [[g]] ([] ++ [[g]])) (w := sortWorldK encP 5 w g 0 n d' os) (e := 41) (ds := d'.toList) (fun _ => rfl) one_encP sz41 hhp (by rw [hld', hs]; exact c1) c2 (by simp [putCells, c3]) (by simpa using ht)
      rw [hld', hs] at this
      exact .nm this
  · cases r with
    | zero => simp at h; subst h; simp
    | succ r => simp at h
  cases r with
  | zero => cases r' with
    | zero => exact absurd rfl hne
    | succ r' => simp at h2
  | succ r => simp at h1
end
end Go.Proofs.Ytmdohphcolffmaa
namespace Go.Proofs.Ytmdohphcolffmaa
open Go.RowKit Go.Shelf
def laysGg6_ren : Go.Shelf.Ren := ⟨fun | 6 => 34 | 10 => 49 | 11 => 50 | 12 => 51 | 13 => 52 | 14 => 53 | 24 => 72 | 25 => 73 | 26 => 74 | 27 => 75 | 28 => 76 | 29 => 77 | 30 => 78 | 31 => 79 | 32 => 80 | 33 => 81 | 34 => 87 | 35 => 88 | 36 => 89 | 37 => 90 | 38 => 91 | 39 => 94 | n => n, fun | 20 => 20 | 26 => 75 | 35 => 96 | 0 => 0 | 37 => 98 | 3 => 3 | 41 => 101 | 44 => 104 | 49 => 114 | 51 => 116 | 4 => 4 | 54 => 119 | 53 => 118 | 58 => 57 | 5 => 5 | 9 => 9 | 60 => 128 | 64 => 132 | 66 => 136 | 67 => 137 | 17 => 17 | 32 => 93 | 33 => 94 | 82 => 154 | 12 => 12 | 75 => 147 | 76 => 148 | 77 => 149 | 78 => 150 | 79 => 151 | 80 => 152 | n => n, fun | n => n⟩
theorem laysGg6 : Go.Proofs.LaysGg.n6 Try.prog laysGg6_ren := {
  mixed := by kernel_rfl
  f6 := Try.func34.trans (congrArg some (by kernel_rfl))
  f10 := Try.func49.trans (congrArg some (by kernel_rfl))
  f11 := Try.func50.trans (congrArg some (by kernel_rfl))
  f12 := Try.func51.trans (congrArg some (by kernel_rfl))
  f13 := Try.func52.trans (congrArg some (by kernel_rfl))
  f14 := Try.func53.trans (congrArg some (by kernel_rfl))
  f24 := Try.func72.trans (congrArg some (by kernel_rfl))
  f25 := Try.func73.trans (congrArg some (by kernel_rfl))
  f26 := Try.func74.trans (congrArg some (by kernel_rfl))
  f27 := Try.func75.trans (congrArg some (by kernel_rfl))
  f28 := Try.func76.trans (congrArg some (by kernel_rfl))
  f29 := Try.func77.trans (congrArg some (by kernel_rfl))
  f30 := Try.func78.trans (congrArg some (by kernel_rfl))
  f31 := Try.func79.trans (congrArg some (by kernel_rfl))
  f32 := Try.func80.trans (congrArg some (by kernel_rfl))
  f33 := Try.func81.trans (congrArg some (by kernel_rfl))
  f34 := Try.func87.trans (congrArg some (by kernel_rfl))
  f35 := Try.func88.trans (congrArg some (by kernel_rfl))
  f36 := Try.func89.trans (congrArg some (by kernel_rfl))
  f37 := Try.func90.trans (congrArg some (by kernel_rfl))
  f38 := Try.func91.trans (congrArg some (by kernel_rfl))
  f39 := Try.func94.trans (congrArg some (by kernel_rfl))
  t0 := Try.underlying0
  a0 := Try.isAgg0
  z0 := Try.sizeOf0
  v0 := Try.zeroValue0
  i0 := by kernel_rfl
  t3 := Try.underlying3
  a3 := Try.isAgg3
  z3 := Try.sizeOf3
  v3 := Try.zeroValue3
  i3 := by kernel_rfl
  t4 := Try.underlying4
  a4 := Try.isAgg4
  z4 := Try.sizeOf4
  v4 := Try.zeroValue4
  i4 := by kernel_rfl
  t5 := Try.underlying5
  a5 := Try.isAgg5
  z5 := Try.sizeOf5
  v5 := Try.zeroValue5
  i5 := by kernel_rfl
  t9 := Try.underlying9
  a9 := Try.isAgg9
  z9 := Try.sizeOf9
  v9 := Try.zeroValue9
  i9 := by kernel_rfl
  t12 := Try.underlying12
  a12 := Try.isAgg12
  z12 := Try.sizeOf12
  v12 := Try.zeroValue12
  i12 := by kernel_rfl
  t17 := Try.underlying17
  a17 := Try.isAgg17
  z17 := Try.sizeOf17
  v17 := Try.zeroValue17
  i17 := by kernel_rfl
  t20 := Try.underlying20
  a20 := Try.isAgg20
  z20 := Try.sizeOf20
  v20 := Try.zeroValue20
  i20 := by kernel_rfl
  t26 := Try.underlying75
  a26 := Try.isAgg75
  z26 := Try.sizeOf75
  v26 := Try.zeroValue75
  i26 := by kernel_rfl
  t32 := Try.underlying93
  a32 := Try.isAgg93
  z32 := Try.sizeOf93
  v32 := Try.zeroValue93
  i32 := by kernel_rfl
  t33 := Try.underlying94
  a33 := Try.isAgg94
  z33 := Try.sizeOf94
  v33 := Try.zeroValue94
  i33 := by kernel_rfl
  t35 := Try.underlying96
  a35 := Try.isAgg96
  z35 := Try.sizeOf96
  v35 := Try.zeroValue96
  i35 := by kernel_rfl
  t37 := Try.underlying98
  a37 := Try.isAgg98
  z37 := Try.sizeOf98
  v37 := Try.zeroValue98
  i37 := by kernel_rfl
  t41 := Try.underlying101
  a41 := Try.isAgg101
  z41 := Try.sizeOf101
  v41 := Try.zeroValue101
  i41 := by kernel_rfl
  t44 := Try.underlying104
  a44 := Try.isAgg104
  z44 := Try.sizeOf104
  v44 := Try.zeroValue104
  i44 := by kernel_rfl
  t49 := Try.underlying114
  a49 := Try.isAgg114
  z49 := Try.sizeOf114
  v49 := Try.zeroValue114
  i49 := by kernel_rfl
  t51 := Try.underlying116
  a51 := Try.isAgg116
  z51 := Try.sizeOf116
  v51 := Try.zeroValue116
  i51 := by kernel_rfl
  t53 := Try.underlying118
  a53 := Try.isAgg118
  z53 := Try.sizeOf118
  v53 := Try.zeroValue118
  i53 := by kernel_rfl
  t54 := Try.underlying119
  a54 := Try.isAgg119
  z54 := Try.sizeOf119
  v54 := Try.zeroValue119
  i54 := by kernel_rfl
  t58 := Try.underlying57
  a58 := Try.isAgg57
  z58 := Try.sizeOf57
  v58 := Try.zeroValue57
  i58 := by kernel_rfl
  t60 := Try.underlying128
  a60 := Try.isAgg128
  z60 := Try.sizeOf128
  v60 := Try.zeroValue128
  i60 := by kernel_rfl
  t64 := Try.underlying132
  a64 := Try.isAgg132
  z64 := Try.sizeOf132
  v64 := Try.zeroValue132
  i64 := by kernel_rfl
  t66 := Try.underlying136
  a66 := Try.isAgg136
  z66 := Try.sizeOf136
  v66 := Try.zeroValue136
  i66 := by kernel_rfl
  t67 := Try.underlying137
  a67 := Try.isAgg137
  z67 := Try.sizeOf137
  v67 := Try.zeroValue137
  i67 := by kernel_rfl
  t75 := Try.underlying147
  a75 := Try.isAgg147
  z75 := Try.sizeOf147
  v75 := Try.zeroValue147
  i75 := by kernel_rfl
  t76 := Try.underlying148
  a76 := Try.isAgg148
  z76 := Try.sizeOf148
  v76 := Try.zeroValue148
  i76 := by kernel_rfl
  t77 := Try.underlying149
  a77 := Try.isAgg149
  z77 := Try.sizeOf149
  v77 := Try.zeroValue149
  i77 := by kernel_rfl
  t78 := Try.underlying150
  a78 := Try.isAgg150
  z78 := Try.sizeOf150
  v78 := Try.zeroValue150
  i78 := by kernel_rfl
  t79 := Try.underlying151
  a79 := Try.isAgg151
  z79 := Try.sizeOf151
  v79 := Try.zeroValue151
  i79 := by kernel_rfl
  t80 := Try.underlying152
  a80 := Try.isAgg152
  z80 := Try.sizeOf152
  v80 := Try.zeroValue152
  i80 := by kernel_rfl
  t82 := Try.underlying154
  a82 := Try.isAgg154
  z82 := Try.sizeOf154
  v82 := Try.zeroValue154
  i82 := by kernel_rfl }
set_option maxHeartbeats 8000000 in
theorem C78 {u : Value} {d : Array Piece} {a b : Nat} (h0 : 0 < d.size) (hab : a ≤ b) (hb : b ≤ d.size) (hl : d.size ≤ 1000) : Fn Try.prog 78 [srt u d] [.agg (dataW u), .v (.int .i64 a), .v (.int .i64 b)] [] [srt u (Go.Sort.reverseRange d a b)] :=
  Fn.ofK h0 (Go.Sort.reverseRange_holds d a b hab hb).1 fun w blk c lb hu hH hblk => Any.reverseRange_func_cells_w { laysGg6 with } encP 5 (fun _ => rfl) (.func 35) #[] lb 71 _ blk 0 a b d w (swp71 blk d.size c) hH hblk hab hb (by omega)
set_option maxHeartbeats 8000000 in
theorem C76 {u : Value} {d : Array Piece} {a b : Nat} (h0 : 0 < d.size) (hab : a ≤ b) (hb : b ≤ d.size) (hl : d.size ≤ 1000) : Fn Try.prog 76 [srt u d] [.agg (dataW u), .v (.int .i64 a), .v (.int .i64 b)] [] [srt u (Go.Sort.breakPatterns d a b)] :=
  Fn.ofK h0 (Go.Sort.breakPatterns_holds d a b hab hb).1 fun w blk c lb hu hH hblk => Any.breakPatterns_func_cells_w { laysGg6 with } encP 5 (fun _ => rfl) (.func 35) #[] lb 71 _ blk 0 a b d w (swp71 blk d.size c) hH hblk hab hb (by omega)
end Go.Proofs.Ytmdohphcolffmaa
namespace Go.Proofs.Ytmdohphcolffmaa
open Go.RowKit
set_option linter.unusedSimpArgs false
set_option linter.unusedVariables false
set_option maxRecDepth 100000
set_option maxHeartbeats 8000000 in
theorem C94 {u : Value} {d : Array Piece} {a b s : Nat} (ha : a < d.size) (hb : b < d.size) (hl : d.size ≤ 1000) (hs : s ≤ 1000) : Fn Try.prog 94 [.own 3 [[.v (.int .i64 s)]]] [.agg (dataR d u), .v (.int .i64 a), .v (.int .i64 b), .ptr 0 0 0 0] [.v (.int .i64 (Go.Sort.order2 befB d a b s).1), .v (.int .i64 (Go.Sort.order2 befB d a b s).2.1)] [.own 3 [[.v (.int .i64 (Go.Sort.order2 befB d a b s).2.2)]]] := by
  refine Spec.body Try.func94 rfl Try.ntmps94 (by simp) rfl ?_; intro S0 own0 v0 w0
  (refine AW.seq_k ?_; intro K hK)
  refine AW.region ?_
  refine awJ (op_box rfl rfl rfl sz104 rfl) ?_; (simp only [nA, Nat.reduceBEq, Nat.reduceEqDiff, ↓reduceIte])
  refine awP (op_assign rfl rfl) ?_; (try simp only [nA, Nat.reduceBEq, Nat.reduceEqDiff, ↓reduceIte, Nat.reduceAdd, Nat.reduceSub])
  refine awP (op_assign rfl rfl) ?_; (try simp only [nA, Nat.reduceBEq, Nat.reduceEqDiff, ↓reduceIte, Nat.reduceAdd, Nat.reduceSub])
  refine AWL.nil ?_
  (refine hK _ ?_; clear hK K; (try simp only [nA, Nat.reduceBEq, Nat.reduceEqDiff, ↓reduceIte, Nat.reduceAdd, Nat.reduceSub]))
  (refine AW.seq_k ?_; intro K hK)
  (refine AW.seq_k ?_; intro K hK)
  refine AW.region ?_
  (refine awP (op_fa_ptr rfl rfl rfl fl104_0 (by exact sz2) (by decide) rfl) ?_); (try simp only [nA, Nat.reduceBEq, Nat.reduceEqDiff, ↓reduceIte, Nat.reduceAdd, Nat.reduceSub])
  (refine awR (op_load_ptr1 rfl rfl rfl rfl ag75 rfl rfl) ?_); (try simp only [nA, Nat.reduceBEq, Nat.reduceEqDiff, ↓reduceIte, Nat.reduceAdd, Nat.reduceSub])
  refine awP (op_move rfl rfl) ?_; (simp only [nA, ↓reduceIte])
  refine awP (op_move rfl rfl) ?_; (simp only [nA, ↓reduceIte])
  refine awJ (OpQ.j (op_ltR (d := d) rfl rfl rfl rfl hl (by omega) (by omega))) ?_; (try simp only [nA, Nat.reduceBEq, Nat.reduceEqDiff, ↓reduceIte, Nat.reduceAdd, Nat.reduceSub])
  refine AWL.nil ?_
  (refine hK _ ?_; clear hK K; (skip))
  refine AW.cond rfl rfl rfl (fun hc => ?_) (fun hc => ?_)
  ·
   (try simp only [hcS] at hc); have hc1 := hc; simp only [Int.toNat_natCast] at hc
   (refine AW.seq_k ?_; intro K hK)
   refine AW.region ?_
   refine awP (op_move rfl rfl) ?_; (simp only [nA, ↓reduceIte])
   (refine awP (op_nil_slot rfl rfl rfl) ?_); (try simp only [nA, Nat.reduceBEq, Nat.reduceEqDiff, ↓reduceIte, Nat.reduceAdd, Nat.reduceSub])
   (refine awR (op_load_ptr1 rfl rfl rfl rfl ag3 rfl rfl) ?_); (try simp only [nA, Nat.reduceBEq, Nat.reduceEqDiff, ↓reduceIte, Nat.reduceAdd, Nat.reduceSub])
   (refine awP (op_addi rfl rfl rfl (by omega)) ?_); (try simp only [nA, Nat.reduceBEq, Nat.reduceEqDiff, ↓reduceIte, Nat.reduceAdd, Nat.reduceSub])
   (refine awP (op_nil_slot rfl rfl rfl) ?_); (try simp only [nA, Nat.reduceBEq, Nat.reduceEqDiff, ↓reduceIte, Nat.reduceAdd, Nat.reduceSub])
   refine awJ (op_store rfl rfl rfl rfl rfl rfl sz3 rfl (bl rfl) rfl) ?_; (simp only [nA, ↓reduceIte])
   refine AWL.nil ?_
   (refine hK _ ?_; clear hK K; (skip))
   (refine AW.seq_k ?_; intro K hK)
   refine AW.region ?_
   refine awP (op_move rfl rfl) ?_; (simp only [nA, ↓reduceIte])
   refine awP (op_move rfl rfl) ?_; (simp only [nA, ↓reduceIte])
   refine awP (op_assign rfl rfl) ?_; (simp only [nA, ↓reduceIte])
   refine awP (op_assign rfl rfl) ?_; (simp only [nA, ↓reduceIte])
   refine AWL.nil ?_
   (refine hK _ ?_; clear hK K; (skip))
   skip
   refine AW.ret ?_; (try simp only [thenE, inBlk, Nat.reduceEqDiff, ↓reduceIte]); rw [show Go.Sort.order2 befB d a b s = (b, a, s + 1) by unfold Go.Sort.order2; rw [if_pos hc]]; exact RQ.of (.inl rfl) rfl (.tmp (bl rfl) rfl rfl (.tmp (bl rfl) rfl rfl .nil)) (by simp) rfl (one_out rfl)
  (try simp only [hcS] at hc); have hc1 := hc; simp only [Int.toNat_natCast] at hc
  refine AW.skip ?_
  (refine hK _ ?_; clear hK K; (skip))
  (refine AW.seq_k ?_; intro K hK)
  refine AW.region ?_
  refine awP (op_move rfl rfl) ?_; (simp only [nA, ↓reduceIte])
  refine awP (op_move rfl rfl) ?_; (simp only [nA, ↓reduceIte])
  refine awP (op_assign rfl rfl) ?_; (simp only [nA, ↓reduceIte])
  refine awP (op_assign rfl rfl) ?_; (simp only [nA, ↓reduceIte])
  refine AWL.nil ?_
  (refine hK _ ?_; clear hK K; (skip))
  skip
  refine AW.ret ?_; (try simp only [thenE, inBlk, Nat.reduceEqDiff, ↓reduceIte]); rw [show Go.Sort.order2 befB d a b s = (a, b, s) by unfold Go.Sort.order2; rw [if_neg (by rw [hc]; decide)]]; exact RQ.of (.inl rfl) rfl (.tmp (bl rfl) rfl rfl (.tmp (bl rfl) rfl rfl .nil)) (by simp) rfl (one_out rfl)
theorem o2b {lt : Piece → Piece → Bool} {d : Array Piece} {a b s n : Nat} (ha : a < n) (hb : b < n) : (Go.Sort.order2 lt d a b s).1 < n ∧ (Go.Sort.order2 lt d a b s).2.1 < n ∧ (Go.Sort.order2 lt d a b s).2.2 ≤ s + 1 := by
  unfold Go.Sort.order2
  split
  · exact ⟨hb, ha, Nat.le_refl _⟩
  exact ⟨ha, hb, Nat.le_succ _⟩
theorem en94 : Enters Try.prog 94 := enters_of Try.func94 (by kernel_rfl) rfl
set_option maxHeartbeats 8000000 in
theorem C91 {u : Value} {d : Array Piece} {a b c s : Nat} (ha : a < d.size) (hb : b < d.size) (hc : c < d.size) (hl : d.size ≤ 1000) (hs : s ≤ 100) : Fn Try.prog 91 [.own 3 [[.v (.int .i64 s)]]] [.agg (dataR d u), .v (.int .i64 a), .v (.int .i64 b), .v (.int .i64 c), .ptr 0 0 0 0] [.v (.int .i64 (Go.Sort.median befB d a b c s).1)] [.own 3 [[.v (.int .i64 (Go.Sort.median befB d a b c s).2)]]] := by
  have h1 := o2b (lt := befB) (d := d) (s := s) ha hb
  have h2 := o2b (lt := befB) (d := d) (s := (Go.Sort.order2 befB d a b s).2.2) h1.2.1 hc
  refine Spec.body Try.func91 rfl Try.ntmps91 (by simp) rfl ?_; intro S0 own0 v0 w0
  (refine AW.seq_k ?_; intro K hK)
  refine AW.region ?_
  refine awJ (op_box rfl rfl rfl sz104 rfl) ?_; (simp only [nA, Nat.reduceBEq, Nat.reduceEqDiff, ↓reduceIte])
  refine awP (op_assign rfl rfl) ?_; (try simp only [nA, Nat.reduceBEq, Nat.reduceEqDiff, ↓reduceIte, Nat.reduceAdd, Nat.reduceSub])
  refine AWL.nil ?_
  (refine hK _ ?_; clear hK K; (try simp only [nA, Nat.reduceBEq, Nat.reduceEqDiff, ↓reduceIte, Nat.reduceAdd, Nat.reduceSub]))
  (refine AW.seq_k ?_; intro K hK)
  refine AW.region ?_
  (refine awR (op_load_ptr rfl rfl rfl rfl ag104 sz104 (bl rfl) rfl) ?_); (try simp only [nA, Nat.reduceBEq, Nat.reduceEqDiff, ↓reduceIte, Nat.reduceAdd, Nat.reduceSub])
  refine awP (op_move rfl rfl) ?_; (simp only [nA, ↓reduceIte])
  refine awP (op_move rfl rfl) ?_; (simp only [nA, ↓reduceIte])
  refine awP (op_move rfl rfl) ?_; (simp only [nA, ↓reduceIte])
  refine awJ (op_call1 (r := 0) rfl en94 (C94 (u := u) (s := s) ha hb hl (by omega)) (by exact rfl) (RL.cons (.base (.same (by exact rfl))) (RL.cons (.base (.same (by exact rfl))) (RL.cons (.base (.same (by exact rfl))) (RL.cons .ptr RL.nil)))) (by exact ⟨_, _, _, rfl, rfl, rfl⟩) (by exact rfl) (by exact rfl) (by exact rfl)) ?_; (try simp only [nA, Nat.reduceBEq, Nat.reduceEqDiff, ↓reduceIte, Nat.reduceAdd, Nat.reduceSub])
  refine awP (op_move rfl rfl) ?_; (simp only [nA])
  refine awP (op_extract rfl rfl rfl) ?_; (try simp only [nA, Nat.reduceBEq, Nat.reduceEqDiff, ↓reduceIte, Nat.reduceAdd, Nat.reduceSub])
  refine awP (op_extract rfl rfl rfl) ?_; (try simp only [nA, Nat.reduceBEq, Nat.reduceEqDiff, ↓reduceIte, Nat.reduceAdd, Nat.reduceSub])
  refine awP (op_assign rfl rfl) ?_; (simp only [nA, ↓reduceIte])
  refine awP (op_assign rfl rfl) ?_; (simp only [nA, ↓reduceIte])
  refine AWL.nil ?_
  (refine hK _ ?_; clear hK K; (skip))
  (refine AW.seq_k ?_; intro K hK)
  refine AW.region ?_
  (refine awR (op_load_ptr rfl rfl rfl rfl ag104 sz104 (bl rfl) rfl) ?_); (try simp only [nA, Nat.reduceBEq, Nat.reduceEqDiff, ↓reduceIte, Nat.reduceAdd, Nat.reduceSub])
  refine awP (op_move rfl rfl) ?_; (simp only [nA, ↓reduceIte])
  refine awP (op_move rfl rfl) ?_; (simp only [nA, ↓reduceIte])
  refine awP (op_move rfl rfl) ?_; (simp only [nA, ↓reduceIte])
  refine awJ (op_call1 (r := 0) rfl en94 (C94 (u := u) (s := (Go.Sort.order2 befB d a b s).2.2) h1.2.1 hc hl (by omega)) (by exact rfl) (RL.cons (.base (.same (by exact rfl))) (RL.cons (.base (.same (by exact rfl))) (RL.cons (.base (.same (by exact rfl))) (RL.cons .ptr RL.nil)))) (by exact ⟨_, _, _, rfl, rfl, rfl⟩) (by exact rfl) (by exact rfl) (by exact rfl)) ?_; (try simp only [nA, Nat.reduceBEq, Nat.reduceEqDiff, ↓reduceIte, Nat.reduceAdd, Nat.reduceSub])
  refine awP (op_move rfl rfl) ?_; (simp only [nA])
  refine awP (op_extract rfl rfl rfl) ?_; (try simp only [nA, Nat.reduceBEq, Nat.reduceEqDiff, ↓reduceIte, Nat.reduceAdd, Nat.reduceSub])
  refine awP (op_extract rfl rfl rfl) ?_; (try simp only [nA, Nat.reduceBEq, Nat.reduceEqDiff, ↓reduceIte, Nat.reduceAdd, Nat.reduceSub])
  refine awP (op_assign rfl rfl) ?_; (simp only [nA, ↓reduceIte])
  refine awP (op_assign rfl rfl) ?_; (simp only [nA, ↓reduceIte])
  refine AWL.nil ?_
  (refine hK _ ?_; clear hK K; (skip))
  (refine AW.seq_k ?_; intro K hK)
  refine AW.region ?_
  (refine awR (op_load_ptr rfl rfl rfl rfl ag104 sz104 (bl rfl) rfl) ?_); (try simp only [nA, Nat.reduceBEq, Nat.reduceEqDiff, ↓reduceIte, Nat.reduceAdd, Nat.reduceSub])
  refine awP (op_move rfl rfl) ?_; (simp only [nA, ↓reduceIte])
  refine awP (op_move rfl rfl) ?_; (simp only [nA, ↓reduceIte])
  refine awP (op_move rfl rfl) ?_; (simp only [nA, ↓reduceIte])
  refine awJ (op_call1 (r := 0) rfl en94 (C94 (u := u) (s := (Go.Sort.order2 befB d (Go.Sort.order2 befB d a b s).2.1 c (Go.Sort.order2 befB d a b s).2.2).2.2) h1.1 h2.1 hl (by omega)) (by exact rfl) (RL.cons (.base (.same (by exact rfl))) (RL.cons (.base (.same (by exact rfl))) (RL.cons (.base (.same (by exact rfl))) (RL.cons .ptr RL.nil)))) (by exact ⟨_, _, _, rfl, rfl, rfl⟩) (by exact rfl) (by exact rfl) (by exact rfl)) ?_; (try simp only [nA, Nat.reduceBEq, Nat.reduceEqDiff, ↓reduceIte, Nat.reduceAdd, Nat.reduceSub])
  refine awP (op_move rfl rfl) ?_; (simp only [nA])
  refine awP (op_extract rfl rfl rfl) ?_; (try simp only [nA, Nat.reduceBEq, Nat.reduceEqDiff, ↓reduceIte, Nat.reduceAdd, Nat.reduceSub])
  refine awP (op_extract rfl rfl rfl) ?_; (try simp only [nA, Nat.reduceBEq, Nat.reduceEqDiff, ↓reduceIte, Nat.reduceAdd, Nat.reduceSub])
  refine awP (op_assign rfl rfl) ?_; (simp only [nA, ↓reduceIte])
  refine awP (op_assign rfl rfl) ?_; (simp only [nA, ↓reduceIte])
  refine AWL.nil ?_
  (refine hK _ ?_; clear hK K; (skip))
  (refine AW.seq_k ?_; intro K hK)
  refine AW.region ?_
  refine awP (op_move rfl rfl) ?_; (simp only [nA])
  refine awP (op_assign rfl rfl) ?_; (simp only [nA])
  refine AWL.nil ?_
  (refine hK _ ?_; clear hK K; (skip))
  skip
  refine AW.ret ?_; (try simp only [thenE, inBlk, Nat.reduceEqDiff, ↓reduceIte]); exact RQ.of (.inl rfl) rfl (.tmp (bl rfl) rfl rfl .nil) (by simp) rfl (one_out rfl)
end Go.Proofs.Ytmdohphcolffmaa
namespace Go.Proofs.Ytmdohphcolffmaa
open Go.RowKit
set_option linter.unusedSimpArgs false
set_option linter.unusedVariables false
set_option maxRecDepth 100000
set_option maxHeartbeats 8000000 in
theorem C91i {u : Value} {d : Array Piece} {x y z : Int} (a b c s : Nat) (e1 : x = a) (e2 : y = b) (e3 : z = c) (ha : a < d.size) (hb : b < d.size) (hc : c < d.size) (hl : d.size ≤ 1000) (hs : s ≤ 100) : Fn Try.prog 91 [.own 3 [[.v (.int .i64 s)]]] [.agg (dataR d u), .v (.int .i64 x), .v (.int .i64 y), .v (.int .i64 z), .ptr 0 0 0 0] [.v (.int .i64 (Go.Sort.median befB d a b c s).1)] [.own 3 [[.v (.int .i64 (Go.Sort.median befB d a b c s).2)]]] := by
  subst e1 e2 e3; exact C91 ha hb hc hl hs
theorem en91 : Enters Try.prog 91 := enters_of Try.func91 (by kernel_rfl) rfl
def hintI : Go.Sort.Hint → Int
  | .unknown => 0
  | .increasing => 1
  | .decreasing => 2
theorem chooseP {lt : Piece → Piece → Bool} {d : Array Piece} {a b : Nat} (h8 : 8 ≤ b - a) (h50 : b - a < 50) : Go.Sort.choosePivot lt d a b = ((Go.Sort.median lt d (a + (b - a) / 4 * 1) (a + (b - a) / 4 * 2) (a + (b - a) / 4 * 3) 0).1, if (Go.Sort.median lt d (a + (b - a) / 4 * 1) (a + (b - a) / 4 * 2) (a + (b - a) / 4 * 3) 0).2 = 0 then .increasing else if (Go.Sort.median lt d (a + (b - a) / 4 * 1) (a + (b - a) / 4 * 2) (a + (b - a) / 4 * 3) 0).2 = 12 then .decreasing else .unknown) := by
  unfold Go.Sort.choosePivot
  simp only [ge_iff_le, if_pos h8, if_neg (show ¬ 50 ≤ b - a by omega)]
set_option maxHeartbeats 8000000 in
theorem C77 {u : Value} {d : Array Piece} {a b : Nat} (h8 : 8 ≤ b - a) (h50 : b - a < 50) (hb : b ≤ d.size) (hl : d.size ≤ 1000) : Fn Try.prog 77 [] [.agg (dataR d u), .v (.int .i64 a), .v (.int .i64 b)] [.v (.int .i64 (Go.Sort.choosePivot befB d a b).1), .v (.int .i64 (hintI (Go.Sort.choosePivot befB d a b).2))] [] := by
  refine Spec.body Try.func77 rfl Try.ntmps77 (by simp) rfl ?_; intro S0 own0 v0 w0
  (refine AW.seq_k ?_; intro K hK)
  refine AW.region ?_
  refine awJ (op_box rfl rfl rfl sz104 rfl) ?_; (simp only [nA, Nat.reduceBEq, Nat.reduceEqDiff, ↓reduceIte])
  refine awP (op_assign rfl rfl) ?_; (try simp only [nA, Nat.reduceBEq, Nat.reduceEqDiff, ↓reduceIte, Nat.reduceAdd, Nat.reduceSub])
  refine awP (op_assign rfl rfl) ?_; (try simp only [nA, Nat.reduceBEq, Nat.reduceEqDiff, ↓reduceIte, Nat.reduceAdd, Nat.reduceSub])
  refine AWL.nil ?_
  (refine hK _ ?_; clear hK K; (try simp only [nA, Nat.reduceBEq, Nat.reduceEqDiff, ↓reduceIte, Nat.reduceAdd, Nat.reduceSub]))
  (refine AW.seq_k ?_; intro K hK)
  refine AW.region ?_
  refine awP (op_move rfl rfl) ?_; (simp only [nA, ↓reduceIte])
  refine awP (op_move rfl rfl) ?_; (simp only [nA, ↓reduceIte])
  (refine awP (op_subi rfl rfl rfl (by omega)) ?_); (try simp only [nA, Nat.reduceBEq, Nat.reduceEqDiff, ↓reduceIte, Nat.reduceAdd, Nat.reduceSub])
  refine awP (op_assign rfl rfl) ?_; (simp only [nA])
  refine AWL.nil ?_
  (refine hK _ ?_; clear hK K; (skip))
  (refine AW.seq_k ?_; intro K hK)
  refine AW.region ?_
  refine awJ (op_alloc rfl ze3 rfl) ?_; (simp only [nA, Nat.reduceBEq, Nat.reduceEqDiff, ↓reduceIte])
  refine AWL.nil ?_
  (refine hK _ ?_; clear hK K; (skip))
  (refine AW.seq_k ?_; intro K hK)
  refine AW.region ?_
  refine awP (op_move rfl rfl) ?_; (simp only [nA, ↓reduceIte])
  refine awP (op_move rfl rfl) ?_; (simp only [nA, ↓reduceIte])
  (refine awP (op_quoi rfl rfl rfl (by omega)) ?_); (try simp only [nA, Nat.reduceBEq, Nat.reduceEqDiff, ↓reduceIte, Nat.reduceAdd, Nat.reduceSub])
  (refine awP (op_muli rfl rfl rfl (by omega)) ?_); (try simp only [nA, Nat.reduceBEq, Nat.reduceEqDiff, ↓reduceIte, Nat.reduceAdd, Nat.reduceSub])
  (refine awP (op_addi rfl rfl rfl (by omega)) ?_); (try simp only [nA, Nat.reduceBEq, Nat.reduceEqDiff, ↓reduceIte, Nat.reduceAdd, Nat.reduceSub])
  refine awP (op_assign rfl rfl) ?_; (simp only [nA])
  refine AWL.nil ?_
  (refine hK _ ?_; clear hK K; (skip))
  (refine AW.seq_k ?_; intro K hK)
  refine AW.region ?_
  refine awP (op_move rfl rfl) ?_; (simp only [nA, ↓reduceIte])
  refine awP (op_move rfl rfl) ?_; (simp only [nA, ↓reduceIte])
  (refine awP (op_quoi rfl rfl rfl (by omega)) ?_); (try simp only [nA, Nat.reduceBEq, Nat.reduceEqDiff, ↓reduceIte, Nat.reduceAdd, Nat.reduceSub])
  (refine awP (op_muli rfl rfl rfl (by omega)) ?_); (try simp only [nA, Nat.reduceBEq, Nat.reduceEqDiff, ↓reduceIte, Nat.reduceAdd, Nat.reduceSub])
  (refine awP (op_addi rfl rfl rfl (by omega)) ?_); (try simp only [nA, Nat.reduceBEq, Nat.reduceEqDiff, ↓reduceIte, Nat.reduceAdd, Nat.reduceSub])
  refine awP (op_assign rfl rfl) ?_; (simp only [nA])
  refine AWL.nil ?_
  (refine hK _ ?_; clear hK K; (skip))
  (refine AW.seq_k ?_; intro K hK)
  refine AW.region ?_
  refine awP (op_move rfl rfl) ?_; (simp only [nA, ↓reduceIte])
  refine awP (op_move rfl rfl) ?_; (simp only [nA, ↓reduceIte])
  (refine awP (op_quoi rfl rfl rfl (by omega)) ?_); (try simp only [nA, Nat.reduceBEq, Nat.reduceEqDiff, ↓reduceIte, Nat.reduceAdd, Nat.reduceSub])
  (refine awP (op_muli rfl rfl rfl (by omega)) ?_); (try simp only [nA, Nat.reduceBEq, Nat.reduceEqDiff, ↓reduceIte, Nat.reduceAdd, Nat.reduceSub])
  (refine awP (op_addi rfl rfl rfl (by omega)) ?_); (try simp only [nA, Nat.reduceBEq, Nat.reduceEqDiff, ↓reduceIte, Nat.reduceAdd, Nat.reduceSub])
  refine awP (op_assign rfl rfl) ?_; (simp only [nA])
  refine AWL.nil ?_
  (refine hK _ ?_; clear hK K; (skip))
  (refine AW.seq_k ?_; intro K hK)
  (refine AW.seq_k ?_; intro K hK)
  refine AW.region ?_
  refine awP (op_move rfl rfl) ?_; (simp only [nA, ↓reduceIte])
  refine awP (op_geq rfl rfl rfl) ?_; (try simp only [nA, Nat.reduceBEq, Nat.reduceEqDiff, ↓reduceIte, Nat.reduceAdd, Nat.reduceSub])
  refine AWL.nil ?_
  (refine hK _ ?_; clear hK K; (skip))
  refine AW.cond rfl rfl rfl (fun hc => ?_) (fun hc => ?_)
  ·
   (try simp only [hcS] at hc); have hc1 := hc
   (refine AW.seq_k ?_; intro K hK)
   (refine AW.seq_k ?_; intro K hK)
   refine AW.region ?_
   refine awP (op_move rfl rfl) ?_; (simp only [nA, ↓reduceIte])
   refine awP (op_geq rfl rfl rfl) ?_; (try simp only [nA, Nat.reduceBEq, Nat.reduceEqDiff, ↓reduceIte, Nat.reduceAdd, Nat.reduceSub])
   refine AWL.nil ?_
   (refine hK _ ?_; clear hK K; (skip))
   refine AW.cond rfl rfl rfl (fun hc => ?_) (fun hc => ?_)
   · (simp at hc; omega)
   (try simp only [hcS] at hc); have hc2 := hc
   refine AW.skip ?_
   (refine hK _ ?_; clear hK K; (skip))
   refine AW.region ?_
   (refine awR (op_load_ptr rfl rfl rfl rfl ag104 sz104 (bl rfl) rfl) ?_); (try simp only [nA, Nat.reduceBEq, Nat.reduceEqDiff, ↓reduceIte, Nat.reduceAdd, Nat.reduceSub])
   refine awP (op_move rfl rfl) ?_; (simp only [nA, ↓reduceIte])
   refine awP (op_move rfl rfl) ?_; (simp only [nA, ↓reduceIte])
   refine awP (op_move rfl rfl) ?_; (simp only [nA, ↓reduceIte])
   refine awJ (op_call1 (r := 1) rfl en91 (C91i (u := u) (d := d) (a + (b - a) / 4 * 1) (a + (b - a) / 4 * 2) (a + (b - a) / 4 * 3) 0 (by omega) (by omega) (by omega) (by omega) (by omega) (by omega) hl (by omega)) (by exact rfl) (RL.cons (.base (.same (by exact rfl))) (RL.cons (.base (.same (by exact rfl))) (RL.cons (.base (.same (by exact rfl))) (RL.cons (.base (.same (by exact rfl))) (RL.cons .ptr RL.nil))))) (by exact ⟨_, _, _, rfl, rfl, rfl⟩) (by exact rfl) (by exact rfl) (by exact rfl)) ?_; (try simp only [nA, Nat.reduceBEq, Nat.reduceEqDiff, ↓reduceIte, Nat.reduceAdd, Nat.reduceSub])
   refine awP (op_assign rfl rfl) ?_; (simp only [nA])
   refine AWL.nil ?_
   (refine hK _ ?_; clear hK K; (skip))
   (refine AW.seq_k ?_; intro K hK)
   refine AW.region ?_
   (refine awR (op_load_ptr1 rfl rfl rfl rfl ag3 rfl rfl) ?_); (try simp only [nA, Nat.reduceBEq, Nat.reduceEqDiff, ↓reduceIte, Nat.reduceAdd, Nat.reduceSub])
   refine AWL.nil ?_
   (refine hK _ ?_; clear hK K; (skip))
   refine AW.block ?_
   (refine AW.seq_k ?_; intro K hK)
   refine AW.region ?_
   (refine awP (op_eql rfl rfl rfl) ?_); (try simp only [nA, Nat.reduceBEq, Nat.reduceEqDiff, ↓reduceIte, Nat.reduceAdd, Nat.reduceSub])
   refine awP (op_assign rfl rfl) ?_; (simp only [nA])
   refine AWL.nil ?_
   (refine hK _ ?_; clear hK K; (skip))
   refine AW.cond rfl rfl rfl (fun hc => ?_) (fun hc => ?_)
   ·
    (try simp only [hcS] at hc); have hc3 := hc
    (refine AW.seq_k ?_; intro K hK)
    refine AW.region ?_
    refine awP (op_move rfl rfl) ?_; (simp only [nA, ↓reduceIte])
    refine awP (op_assign rfl rfl) ?_; (simp only [nA])
    refine awP (op_assign rfl rfl) ?_; (try simp only [nA, Nat.reduceBEq, Nat.reduceEqDiff, ↓reduceIte, Nat.reduceAdd, Nat.reduceSub])
    refine AWL.nil ?_
    (refine hK _ ?_; clear hK K; (skip))
    skip
    refine AW.ret ?_; (try simp only [thenE, inBlk, Nat.reduceEqDiff, ↓reduceIte]); rw [chooseP h8 h50, if_pos (by omega)]; exact RQ.of0 rfl (.tmp (bl rfl) rfl rfl (.tmp (bl rfl) rfl rfl .nil))
   (try simp only [hcS] at hc); have hc3 := hc
   (refine AW.seq_k ?_; intro K hK)
   refine AW.region ?_
   (refine awP (op_eql rfl rfl rfl) ?_); (try simp only [nA, Nat.reduceBEq, Nat.reduceEqDiff, ↓reduceIte, Nat.reduceAdd, Nat.reduceSub])
   refine awP (op_assign rfl rfl) ?_; (simp only [nA])
   refine AWL.nil ?_
   (refine hK _ ?_; clear hK K; (skip))
   refine AW.cond rfl rfl rfl (fun hc => ?_) (fun hc => ?_)
   ·
    (try simp only [hcS] at hc); have hc4 := hc
    (refine AW.seq_k ?_; intro K hK)
    refine AW.region ?_
    refine awP (op_move rfl rfl) ?_; (simp only [nA, ↓reduceIte])
    refine awP (op_assign rfl rfl) ?_; (simp only [nA])
    refine awP (op_assign rfl rfl) ?_; (try simp only [nA, Nat.reduceBEq, Nat.reduceEqDiff, ↓reduceIte, Nat.reduceAdd, Nat.reduceSub])
    refine AWL.nil ?_
    (refine hK _ ?_; clear hK K; (skip))
    skip
    refine AW.ret ?_; (try simp only [thenE, inBlk, Nat.reduceEqDiff, ↓reduceIte]); rw [chooseP h8 h50, if_neg (by omega), if_pos (by omega)]; exact RQ.of0 rfl (.tmp (bl rfl) rfl rfl (.tmp (bl rfl) rfl rfl .nil))
   (try simp only [hcS] at hc); have hc4 := hc
   (refine AW.seq_k ?_; intro K hK)
   refine AW.region ?_
   refine awP (op_move rfl rfl) ?_; (simp only [nA, ↓reduceIte])
   refine awP (op_assign rfl rfl) ?_; (simp only [nA])
   refine awP (op_assign rfl rfl) ?_; (try simp only [nA, Nat.reduceBEq, Nat.reduceEqDiff, ↓reduceIte, Nat.reduceAdd, Nat.reduceSub])
   refine AWL.nil ?_
   (refine hK _ ?_; clear hK K; (skip))
   skip
   refine AW.ret ?_; (try simp only [thenE, inBlk, Nat.reduceEqDiff, ↓reduceIte]); rw [chooseP h8 h50, if_neg (by omega), if_neg (by omega)]; exact RQ.of0 rfl (.tmp (bl rfl) rfl rfl (.tmp (bl rfl) rfl rfl .nil))
  (simp at hc; omega)
end Go.Proofs.Ytmdohphcolffmaa
namespace Go.Proofs.Ytmdohphcolffmaa
open Go.RowKit
set_option linter.unusedSimpArgs false
set_option linter.unusedVariables false
set_option maxRecDepth 100000
section
open Go.Sort
variable {lt : Piece → Piece → Bool} {a b i : Nat} {d : Array Piece}
theorem scanS_pos (h : i < b) (h2 : lt d[i]! d[i - 1]! = false) : scanSorted lt d b i = scanSorted lt d b (i + 1) := by
  rw [scanSorted, if_pos (by rw [h2]; simp [h])]
theorem scanS_neg (h : ¬ (i < b ∧ lt d[i]! d[i - 1]! = false)) : scanSorted lt d b i = i := by
  rw [scanSorted, if_neg (by simpa using h)]
theorem partI (h : b - a < 50) : partialInsertionSort lt d a b = (d, decide (scanSorted lt d b (a + 1) = b)) := by
  unfold partialInsertionSort
  rw [partialIns]
  by_cases hb : scanSorted lt d b (a + 1) = b
  · simp only [hb, if_true, decide_true]
  simp [hb, h]
end
set_option maxHeartbeats 8000000 in
theorem C79 {u : Value} {d : Array Piece} {a b : Nat} (hab : a < b) (h50 : b - a < 50) (hb : b ≤ d.size) (hl : d.size ≤ 1000) : Fn Try.prog 79 [srt u d] [.agg (dataW u), .v (.int .i64 a), .v (.int .i64 b)] [.v (.bool (Go.Sort.partialInsertionSort befB d a b).2)] [srt u (Go.Sort.partialInsertionSort befB d a b).1] := by
  refine Spec.body Try.func79 rfl Try.ntmps79 (by simp) rfl ?_; intro S0 own0 v0 w0
  (refine AW.seq_k ?_; intro K hK)
  refine AW.region ?_
  refine awJ (op_box rfl rfl rfl sz104 rfl) ?_; (simp only [nA, Nat.reduceBEq, Nat.reduceEqDiff, ↓reduceIte])
  refine awP (op_assign rfl rfl) ?_; (try simp only [nA, Nat.reduceBEq, Nat.reduceEqDiff, ↓reduceIte, Nat.reduceAdd, Nat.reduceSub])
  refine AWL.nil ?_
  (refine hK _ ?_; clear hK K; (try simp only [nA, Nat.reduceBEq, Nat.reduceEqDiff, ↓reduceIte, Nat.reduceAdd, Nat.reduceSub]))
  (refine AW.seq_k ?_; intro K hK)
  refine AW.region ?_
  refine awP (op_move rfl rfl) ?_; (simp only [nA, ↓reduceIte])
  (refine awP (op_addi rfl rfl rfl (by omega)) ?_); (try simp only [nA, Nat.reduceBEq, Nat.reduceEqDiff, ↓reduceIte, Nat.reduceAdd, Nat.reduceSub])
  refine awP (op_assign rfl rfl) ?_; (simp only [nA])
  refine AWL.nil ?_
  (refine hK _ ?_; clear hK K; (skip))
  (refine AW.seq_k ?_; intro K hK)
  (refine AW.seq_k ?_; intro K hK)
  refine AW.region ?_
  refine awP (op_assign rfl rfl) ?_; (try simp only [nA, Nat.reduceBEq, Nat.reduceEqDiff, ↓reduceIte, Nat.reduceAdd, Nat.reduceSub])
  refine AWL.nil ?_
  (refine hK _ ?_; clear hK K; (skip))
  refine AW.block ?_
  refine AW.loopI (fun (_ : Unit) => [(1, .v (.int .i64 a)), (2, .v (.int .i64 b)), (3, .ptr 1 1 0 0), (7, .v (.int .i64 ((a + 1 : Nat) : Int))), (8, .v (.int .i64 0))]) (fun _ => ⟨[(0, srt u d), (1, .own 104 [dataW u])], 2⟩) (fun _ => True) (fun _ => 0) () trivial ⟨rfl, rfl, rfl, vint (by omega), rfl, trivial⟩ rfl ?_; rintro _ ρ -; simp only [updL]
  (refine AW.seq_k ?_; intro K hK)
  (refine AW.seq_k ?_; intro K hK)
  refine AW.region ?_
  refine awP (op_move rfl rfl) ?_; (simp only [nA, ↓reduceIte])
  refine awP (op_lss rfl rfl rfl) ?_; (try simp only [nA, Nat.reduceBEq, Nat.reduceEqDiff, ↓reduceIte, Nat.reduceAdd, Nat.reduceSub])
  refine AWL.nil ?_
  (refine hK _ ?_; clear hK K; (skip))
  refine AW.cond rfl rfl rfl (fun hc => ?_) (fun hc => ?_)
  ·
   (try simp only [hcS] at hc); have hc1 := hc
   refine AW.skip ?_
   (refine hK _ ?_; clear hK K; (skip))
   (refine AW.seq_k ?_; intro K hK)
   refine AW.block ?_
   (refine AW.seq_k ?_; intro K hK)
   refine AW.block ?_
   refine AW.loopI (fun (i : Nat) => [(1, .v (.int .i64 a)), (2, .v (.int .i64 b)), (3, .ptr 1 1 0 0), (7, .v (.int .i64 (i : Nat))), (8, .v (.int .i64 0))]) (fun _ => ⟨[(0, srt u d), (1, .own 104 [dataW u])], 2⟩) (fun i => a < i ∧ i ≤ b ∧ Go.Sort.scanSorted befB d b i = Go.Sort.scanSorted befB d b (a + 1)) (fun i => b - i) (a + 1) ⟨by omega, by omega, rfl⟩ ⟨rfl, rfl, rfl, rfl, rfl, trivial⟩ rfl ?_; rintro i ρ ⟨hi1, hi2, hS⟩; simp only [updL]
   (refine AW.seq_k ?_; intro K hK)
   (refine AW.seq_k ?_; intro K hK)
   refine AW.region (AWL.quiet ?_)
   refine aqP (op_move rfl rfl) ?_; (simp only [nA, ↓reduceIte])
   refine aqP (op_move rfl rfl) ?_; (simp only [nA, ↓reduceIte])
   refine aqP (op_lss rfl rfl rfl) ?_; (try simp only [nA, Nat.reduceBEq, Nat.reduceEqDiff, ↓reduceIte, Nat.reduceAdd, Nat.reduceSub])
   refine aqP (op_move rfl rfl) ?_; (simp only [nA])
   refine' aqAnd' [_, _, _, _, _, _, _] [21,22,23,24,25,26,27] rfl rfl rfl rfl rfl rfl rfl rfl rfl rfl rfl rfl (fun hb => ?_) ?_; rotate_left
   ·
    (try simp only [hcS] at hb)
    (refine aqP (op_fa_ptr rfl rfl rfl fl104_0 (by exact sz2) (by decide) rfl) ?_); (try simp only [nA, Nat.reduceBEq, Nat.reduceEqDiff, ↓reduceIte, Nat.reduceAdd, Nat.reduceSub])
    (refine aqR (op_load_ptr1 rfl rfl rfl rfl ag75 rfl rfl) ?_); (try simp only [nA, Nat.reduceBEq, Nat.reduceEqDiff, ↓reduceIte, Nat.reduceAdd, Nat.reduceSub])
    refine aqP (op_move rfl rfl) ?_; (simp only [nA, ↓reduceIte])
    refine aqP (op_move rfl rfl) ?_; (simp only [nA, ↓reduceIte])
    (refine aqP (op_subi rfl rfl rfl (by omega)) ?_); (try simp only [nA, Nat.reduceBEq, Nat.reduceEqDiff, ↓reduceIte, Nat.reduceAdd, Nat.reduceSub])
    refine aqQ (op_lt (r := 0) (d := d) rfl rfl rfl rfl rfl hl (by omega) (by omega)) ?_; (try simp only [nA, Nat.reduceBEq, Nat.reduceEqDiff, ↓reduceIte, Nat.reduceAdd, Nat.reduceSub])
    refine aqP (op_not rfl rfl rfl) ?_; (try simp only [nA, Nat.reduceBEq, Nat.reduceEqDiff, ↓reduceIte, Nat.reduceAdd, Nat.reduceSub])
    (refine aqSeg rfl rfl rfl ?_; repeat (first | exact fun _ _ => rfl | refine upd_out rfl ?_))
   refine AQ.nil ?_
   (refine hK _ ?_; clear hK K; (skip))
   refine AW.cond rfl rfl rfl (fun hc => ?_) (fun hc => ?_)
   ·
    (try simp only [hcS] at hc); have hc2 := hc; simp only [Int.toNat_natCast, Bool.and_eq_true, Bool.not_eq_true', decide_eq_true_eq, show ((i : Int) - 1).toNat = i - 1 by omega] at hc
    refine AW.skip ?_
    (refine hK _ ?_; clear hK K; (skip))
    refine AW.block ?_
    refine AW.region ?_
    refine awP (op_move rfl rfl) ?_; (simp only [nA, Nat.reduceEqDiff, ↓reduceIte])
    (refine awP (op_addi rfl rfl rfl (by omega)) ?_); (try simp only [nA, Nat.reduceBEq, Nat.reduceEqDiff, ↓reduceIte, Nat.reduceAdd, Nat.reduceSub])
    refine awP (op_assign rfl rfl) ?_; (simp only [nA])
    refine AWL.nil ?_
    (try simp only [thenE, inBlk, Nat.reduceEqDiff, ↓reduceIte])
    refine ⟨i + 1, ⟨by omega, by omega, by rw [← hS]; exact (scanS_pos (lt := befB) (d := d) (b := b) (i := i) (by omega) hc.2).symm⟩, by omega, ⟨rfl, rfl, rfl, rfl, rfl, trivial⟩, (by trivial), (by trivial)⟩
   (try simp only [hcS] at hc); have hc2 := hc; simp only [Int.toNat_natCast, Bool.and_eq_true, Bool.not_eq_true', decide_eq_true_eq, show ((i : Int) - 1).toNat = i - 1 by omega] at hc
   refine AW.exit ?_; (try simp only [thenE, inBlk, Nat.reduceEqDiff, ↓reduceIte])
   clear hK K
   (refine hK _ ?_; clear hK K; (skip))
   (refine AW.seq_k ?_; intro K hK)
   (refine AW.seq_k ?_; intro K hK)
   refine AW.region ?_
   refine awP (op_move rfl rfl) ?_; (simp only [nA, Nat.reduceEqDiff, ↓reduceIte])
   refine awP (op_move rfl rfl) ?_; (simp only [nA, Nat.reduceEqDiff, ↓reduceIte])
   (refine awP (op_eql rfl rfl rfl) ?_); (try simp only [nA, Nat.reduceBEq, Nat.reduceEqDiff, ↓reduceIte, Nat.reduceAdd, Nat.reduceSub])
   refine AWL.nil ?_
   (refine hK _ ?_; clear hK K; (skip))
   refine AW.cond rfl rfl rfl (fun hc => ?_) (fun hc => ?_)
   ·
    (try simp only [hcS] at hc); have hc3 := hc; have hse : Go.Sort.scanSorted befB d b i = i := scanS_neg (by rintro ⟨h1, h2⟩; rcases hc2 with h | h; omega; simp [h2] at h)
    (refine AW.seq_k ?_; intro K hK)
    refine AW.region ?_
    refine awP (op_assign rfl rfl) ?_; (try simp only [nA, Nat.reduceBEq, Nat.reduceEqDiff, ↓reduceIte, Nat.reduceAdd, Nat.reduceSub])
    refine AWL.nil ?_
    (refine hK _ ?_; clear hK K; (skip))
    skip
    refine AW.ret ?_; (try simp only [thenE, inBlk, Nat.reduceEqDiff, ↓reduceIte]); rw [partI h50, ← hS, hse, decide_eq_true (show i = b by omega)]; exact RQ.of (.inl rfl) rfl (.tmp (bl rfl) rfl rfl .nil) (by simp) rfl (one_out rfl)
   (try simp only [hcS] at hc); have hc3 := hc; have hse : Go.Sort.scanSorted befB d b i = i := scanS_neg (by rintro ⟨h1, h2⟩; rcases hc2 with h | h; omega; simp [h2] at h)
   refine AW.skip ?_
   (refine hK _ ?_; clear hK K; (skip))
   (refine AW.seq_k ?_; intro K hK)
   (refine AW.seq_k ?_; intro K hK)
   refine AW.region ?_
   refine awP (op_move rfl rfl) ?_; (simp only [nA, Nat.reduceEqDiff, ↓reduceIte])
   refine awP (op_move rfl rfl) ?_; (simp only [nA, Nat.reduceEqDiff, ↓reduceIte])
   (refine awP (op_subi rfl rfl rfl (by omega)) ?_); (try simp only [nA, Nat.reduceBEq, Nat.reduceEqDiff, ↓reduceIte, Nat.reduceAdd, Nat.reduceSub])
   refine awP (op_lss rfl rfl rfl) ?_; (try simp only [nA, Nat.reduceBEq, Nat.reduceEqDiff, ↓reduceIte, Nat.reduceAdd, Nat.reduceSub])
   refine AWL.nil ?_
   (refine hK _ ?_; clear hK K; (skip))
   refine AW.cond rfl rfl rfl (fun hc => ?_) (fun hc => ?_)
   ·
    (try simp only [hcS] at hc); have hc4 := hc
    (refine AW.seq_k ?_; intro K hK)
    refine AW.region ?_
    refine awP (op_assign rfl rfl) ?_; (try simp only [nA, Nat.reduceBEq, Nat.reduceEqDiff, ↓reduceIte, Nat.reduceAdd, Nat.reduceSub])
    refine AWL.nil ?_
    (refine hK _ ?_; clear hK K; (skip))
    skip
    refine AW.ret ?_; (try simp only [thenE, inBlk, Nat.reduceEqDiff, ↓reduceIte]); rw [partI h50, ← hS, hse, decide_eq_false (show ¬ i = b by omega)]; exact RQ.of (.inl rfl) rfl (.tmp (bl rfl) rfl rfl .nil) (by simp) rfl (one_out rfl)
   (simp at hc; omega)
  (cases hc; done)
end Go.Proofs.Ytmdohphcolffmaa
namespace Go.Proofs.Ytmdohphcolffmaa
open Go.RowKit
set_option linter.unusedSimpArgs false
set_option linter.unusedVariables false
set_option maxRecDepth 100000
section
open Go.Sort
variable {p : Piece → Bool} {lt : Piece → Piece → Bool} {d : Array Piece} {i j : Nat}
theorem up_pos (h : i ≤ j) (h2 : p d[i]! = true) : scanUp p d j i = scanUp p d j (i + 1) := by rw [scanUp, if_pos (by simp [h, h2])]
theorem up_neg (h : ¬ (i ≤ j ∧ p d[i]! = true)) : scanUp p d j i = i := by rw [scanUp, if_neg (by simpa using h)]
theorem down_pos (h0 : 0 < j) (h : i ≤ j) (h2 : p d[j]! = true) : scanDown p d i j = scanDown p d i (j - 1) := by
  obtain ⟨j, rfl⟩ : ∃ q, j = q + 1 := ⟨j - 1, by omega⟩
  rw [scanDown, if_pos (by simp [h, h2])]; rfl
theorem down_neg (h : ¬ (i ≤ j ∧ p d[j]! = true)) : scanDown p d i j = j := by
  cases j with
  | zero => rfl
  | succ j => rw [scanDown, if_neg (by simpa using h)]
theorem part_stop {a i2 j2 : Nat} (h1 : scanUp (fun x => lt x d[a]!) d j i = i2) (h2 : scanDown (fun x => !lt x d[a]!) d i2 j = j2) (h : j2 < i2) : partLoop lt a i j d = (j2, d) := by
  rw [partLoop]; simp only [h1, h2]; rw [if_pos h]
theorem part_step {a i2 j2 : Nat} (h1 : scanUp (fun x => lt x d[a]!) d j i = i2) (h2 : scanDown (fun x => !lt x d[a]!) d i2 j = j2) (h : ¬ j2 < i2) (hg : (j2 - 1) + 1 - (i2 + 1) < j + 1 - i) : partLoop lt a i j d = partLoop lt a (i2 + 1) (j2 - 1) (swp d i2 j2) := by
  rw [partLoop]; simp only [h1, h2]; rw [if_neg h, dif_pos hg]
end
set_option maxHeartbeats 8000000 in
theorem C81 {u : Value} {d : Array Piece} {a b pv : Nat} (hab : a < b) (hp : a ≤ pv ∧ pv < b) (hb : b ≤ d.size) (hl : d.size ≤ 1000) : Fn Try.prog 81 [srt u d] [.agg (dataW u), .v (.int .i64 a), .v (.int .i64 b), .v (.int .i64 pv)] [.v (.int .i64 (Go.Sort.partition befB d a b pv).1), .v (.bool (Go.Sort.partition befB d a b pv).2.1)] [srt u (Go.Sort.partition befB d a b pv).2.2] := by
  refine Spec.body Try.func81 rfl Try.ntmps81 (by simp) rfl ?_; intro S0 own0 v0 w0
  (refine AW.seq_k ?_; intro K hK)
  refine AW.region ?_
  refine awJ (op_box rfl rfl rfl sz104 rfl) ?_; (simp only [nA, Nat.reduceBEq, Nat.reduceEqDiff, ↓reduceIte])
  refine awP (op_assign rfl rfl) ?_; (try simp only [nA, Nat.reduceBEq, Nat.reduceEqDiff, ↓reduceIte, Nat.reduceAdd, Nat.reduceSub])
  refine awP (op_assign rfl rfl) ?_; (try simp only [nA, Nat.reduceBEq, Nat.reduceEqDiff, ↓reduceIte, Nat.reduceAdd, Nat.reduceSub])
  refine AWL.nil ?_
  (refine hK _ ?_; clear hK K; (try simp only [nA, Nat.reduceBEq, Nat.reduceEqDiff, ↓reduceIte, Nat.reduceAdd, Nat.reduceSub]))
  (refine AW.seq_k ?_; intro K hK)
  refine AW.region ?_
  (refine awP (op_fa_ptr rfl rfl rfl fl104_1 (by exact sz2) (by decide) rfl) ?_); (try simp only [nA, Nat.reduceBEq, Nat.reduceEqDiff, ↓reduceIte, Nat.reduceAdd, Nat.reduceSub])
  (refine awR (op_load_ptr1 rfl rfl rfl rfl ag98 rfl rfl) ?_); (try simp only [nA, Nat.reduceBEq, Nat.reduceEqDiff, ↓reduceIte, Nat.reduceAdd, Nat.reduceSub])
  refine awP (op_move rfl rfl) ?_; (simp only [nA, ↓reduceIte])
  refine awP (op_move rfl rfl) ?_; (simp only [nA, ↓reduceIte])
  refine awJ (op_sw (r := 0) (d := d) rfl rfl rfl rfl rfl (by omega) (by omega) rfl) ?_; (try simp only [nA, Nat.reduceBEq, Nat.reduceEqDiff, ↓reduceIte, Nat.reduceAdd, Nat.reduceSub])
  refine AWL.nil ?_
  (refine hK _ ?_; clear hK K; (skip))
  (refine AW.seq_k ?_; intro K hK)
  refine AW.region ?_
  refine awP (op_move rfl rfl) ?_; (simp only [nA, ↓reduceIte])
  (refine awP (op_addi rfl rfl rfl (by omega)) ?_); (try simp only [nA, Nat.reduceBEq, Nat.reduceEqDiff, ↓reduceIte, Nat.reduceAdd, Nat.reduceSub])
  refine awP (op_move rfl rfl) ?_; (simp only [nA, ↓reduceIte])
  (refine awP (op_subi rfl rfl rfl (by omega)) ?_); (try simp only [nA, Nat.reduceBEq, Nat.reduceEqDiff, ↓reduceIte, Nat.reduceAdd, Nat.reduceSub])
  refine awP (op_assign rfl rfl) ?_; (simp only [nA, ↓reduceIte])
  refine awP (op_assign rfl rfl) ?_; (simp only [nA, ↓reduceIte])
  refine AWL.nil ?_
  (refine hK _ ?_; clear hK K; (skip))
  (refine AW.seq_k ?_; intro K hK)
  refine AW.block ?_
  generalize hd0 : Go.Sort.swp d a pv = dk; have hs : dk.size = d.size := (by rw [← hd0]; exact Go.Sort.size_swp _ _ _); refine AW.loopI (fun (i : Nat) => [(1, .v (.int .i64 a)), (4, .ptr 1 1 0 0), (10, .v (.int .i64 (i : Nat))), (11, .v (.int .i64 ((b - 1 : Nat) : Int)))]) (fun _ => ⟨[(0, srt u dk), (1, .own 104 [dataW u])], 2⟩) (fun i => a < i ∧ i ≤ b ∧ Go.Sort.scanUp (fun x => befB x dk[a]!) dk (b - 1) i = Go.Sort.scanUp (fun x => befB x dk[a]!) dk (b - 1) (a + 1)) (fun i => b - i) (a + 1) ⟨by omega, by omega, rfl⟩ ⟨rfl, rfl, vint (by omega), vint (by omega), trivial⟩ (by rw [← hd0]; simp only [Int.toNat_natCast]; rfl) ?_; rintro i ρ ⟨hi1, hi2, hI⟩; simp only [updL]
  (refine AW.seq_k ?_; intro K hK)
  (refine AW.seq_k ?_; intro K hK)
  refine AW.region (AWL.quiet ?_)
  refine aqP (op_move rfl rfl) ?_; (simp only [nA, ↓reduceIte])
  refine aqP (op_move rfl rfl) ?_; (simp only [nA, ↓reduceIte])
  refine aqP (op_leq rfl rfl rfl) ?_; (try simp only [nA, Nat.reduceBEq, Nat.reduceEqDiff, ↓reduceIte, Nat.reduceAdd, Nat.reduceSub])
  refine aqP (op_move rfl rfl) ?_; (simp only [nA])
  refine' aqAnd' [_, _, _, _, _] [25,26,27,28,29] rfl rfl rfl rfl rfl rfl rfl rfl rfl rfl rfl rfl (fun hb => ?_) ?_; rotate_left
  ·
   (try simp only [hcS] at hb)
   (refine aqP (op_fa_ptr rfl rfl rfl fl104_0 (by exact sz2) (by decide) rfl) ?_); (try simp only [nA, Nat.reduceBEq, Nat.reduceEqDiff, ↓reduceIte, Nat.reduceAdd, Nat.reduceSub])
   (refine aqR (op_load_ptr1 rfl rfl rfl rfl ag75 rfl rfl) ?_); (try simp only [nA, Nat.reduceBEq, Nat.reduceEqDiff, ↓reduceIte, Nat.reduceAdd, Nat.reduceSub])
   refine aqP (op_move rfl rfl) ?_; (simp only [nA, ↓reduceIte])
   refine aqP (op_move rfl rfl) ?_; (simp only [nA, ↓reduceIte])
   refine aqQ (op_lt (r := 0) (d := dk) rfl rfl rfl rfl rfl (by omega) (by omega) (by omega)) ?_; (try simp only [nA, Nat.reduceBEq, Nat.reduceEqDiff, ↓reduceIte, Nat.reduceAdd, Nat.reduceSub])
   (refine aqSeg rfl rfl rfl ?_; repeat (first | exact fun _ _ => rfl | refine upd_out rfl ?_))
  refine AQ.nil ?_
  (refine hK _ ?_; clear hK K; (skip))
  refine AW.cond rfl rfl rfl (fun hc => ?_) (fun hc => ?_)
  ·
   (try simp only [hcS] at hc); have hc1 := hc; simp only [Int.toNat_natCast, Bool.and_eq_true, Bool.not_eq_true', decide_eq_true_eq] at hc
   refine AW.skip ?_
   (refine hK _ ?_; clear hK K; (skip))
   refine AW.block ?_
   refine AW.region ?_
   refine awP (op_move rfl rfl) ?_; (simp only [nA, Nat.reduceEqDiff, ↓reduceIte])
   (refine awP (op_addi rfl rfl rfl (by omega)) ?_); (try simp only [nA, Nat.reduceBEq, Nat.reduceEqDiff, ↓reduceIte, Nat.reduceAdd, Nat.reduceSub])
   refine awP (op_assign rfl rfl) ?_; (simp only [nA])
   refine AWL.nil ?_
   (try simp only [thenE, inBlk, Nat.reduceEqDiff, ↓reduceIte])
   refine ⟨i + 1, ⟨by omega, by omega, by rw [← hI]; exact (up_pos (p := fun x => befB x dk[a]!) (d := dk) (i := i) (j := b - 1) (by omega) hc.2).symm⟩, by omega, ⟨rfl, rfl, rfl, rfl, trivial⟩, (by trivial), (by trivial)⟩
  (try simp only [hcS] at hc); have hc1 := hc; simp only [Int.toNat_natCast, Bool.and_eq_true, Bool.not_eq_true', decide_eq_true_eq] at hc; have hU : Go.Sort.scanUp (fun x => befB x dk[a]!) dk (b - 1) (a + 1) = i := (by rw [← hI]; exact up_neg (by rintro ⟨h1, h2⟩; rcases hc with h | h; omega; simp [h2] at h))
  refine AW.exit ?_; (try simp only [thenE, inBlk, Nat.reduceEqDiff, ↓reduceIte])
  clear hK K
  (refine hK _ ?_; clear hK K; (skip))
  (refine AW.seq_k ?_; intro K hK)
  refine AW.block ?_
  refine AW.loopI (fun (j : Nat) => [(1, .v (.int .i64 a)), (4, .ptr 1 1 0 0), (10, .v (.int .i64 (i : Nat))), (11, .v (.int .i64 (j : Nat)))]) (fun _ => ⟨[(0, srt u dk), (1, .own 104 [dataW u])], 2⟩) (fun j => i ≤ j + 1 ∧ j ≤ b - 1 ∧ Go.Sort.scanDown (fun x => !befB x dk[a]!) dk i j = Go.Sort.scanDown (fun x => !befB x dk[a]!) dk i (b - 1)) (fun j => j) (b - 1) ⟨by omega, by omega, rfl⟩ ⟨rfl, rfl, rfl, rfl, trivial⟩ rfl ?_; rintro j ρ ⟨hj1, hj2, hJ⟩; simp only [updL]
  (refine AW.seq_k ?_; intro K hK)
  (refine AW.seq_k ?_; intro K hK)
  refine AW.region (AWL.quiet ?_)
  refine aqP (op_move rfl rfl) ?_; (simp only [nA, ↓reduceIte])
  refine aqP (op_move rfl rfl) ?_; (simp only [nA, ↓reduceIte])
  refine aqP (op_leq rfl rfl rfl) ?_; (try simp only [nA, Nat.reduceBEq, Nat.reduceEqDiff, ↓reduceIte, Nat.reduceAdd, Nat.reduceSub])
  refine aqP (op_move rfl rfl) ?_; (simp only [nA])
  refine' aqAnd' [_, _, _, _, _, _] [37,38,39,40,41,42] rfl rfl rfl rfl rfl rfl rfl rfl rfl rfl rfl rfl (fun hb => ?_) ?_; rotate_left
  ·
   (try simp only [hcS] at hb)
   (refine aqP (op_fa_ptr rfl rfl rfl fl104_0 (by exact sz2) (by decide) rfl) ?_); (try simp only [nA, Nat.reduceBEq, Nat.reduceEqDiff, ↓reduceIte, Nat.reduceAdd, Nat.reduceSub])
   (refine aqR (op_load_ptr1 rfl rfl rfl rfl ag75 rfl rfl) ?_); (try simp only [nA, Nat.reduceBEq, Nat.reduceEqDiff, ↓reduceIte, Nat.reduceAdd, Nat.reduceSub])
   refine aqP (op_move rfl rfl) ?_; (simp only [nA, ↓reduceIte])
   refine aqP (op_move rfl rfl) ?_; (simp only [nA, ↓reduceIte])
   refine aqQ (op_lt (r := 0) (d := dk) rfl rfl rfl rfl rfl (by omega) (by omega) (by omega)) ?_; (try simp only [nA, Nat.reduceBEq, Nat.reduceEqDiff, ↓reduceIte, Nat.reduceAdd, Nat.reduceSub])
   refine aqP (op_not rfl rfl rfl) ?_; (try simp only [nA, Nat.reduceBEq, Nat.reduceEqDiff, ↓reduceIte, Nat.reduceAdd, Nat.reduceSub])
   (refine aqSeg rfl rfl rfl ?_; repeat (first | exact fun _ _ => rfl | refine upd_out rfl ?_))
  refine AQ.nil ?_
  (refine hK _ ?_; clear hK K; (skip))
  refine AW.cond rfl rfl rfl (fun hc => ?_) (fun hc => ?_)
  ·
   (try simp only [hcS] at hc); have hc2 := hc; simp only [Int.toNat_natCast, Bool.and_eq_true, Bool.not_eq_true', decide_eq_true_eq] at hc
   refine AW.skip ?_
   (refine hK _ ?_; clear hK K; (skip))
   refine AW.block ?_
   refine AW.region ?_
   refine awP (op_move rfl rfl) ?_; (simp only [nA, Nat.reduceEqDiff, ↓reduceIte])
   (refine awP (op_subi rfl rfl rfl (by omega)) ?_); (try simp only [nA, Nat.reduceBEq, Nat.reduceEqDiff, ↓reduceIte, Nat.reduceAdd, Nat.reduceSub])
   refine awP (op_assign rfl rfl) ?_; (simp only [nA])
   refine AWL.nil ?_
   (try simp only [thenE, inBlk, Nat.reduceEqDiff, ↓reduceIte])
   refine ⟨j - 1, ⟨by omega, by omega, by rw [← hJ]; exact (down_pos (p := fun x => !befB x dk[a]!) (d := dk) (i := i) (j := j) (by omega) (by omega) (by simp [hc.2])).symm⟩, by omega, ⟨rfl, rfl, rfl, vint (by omega), trivial⟩, (by trivial), (by trivial)⟩
  (try simp only [hcS] at hc); have hc2 := hc; simp only [Int.toNat_natCast, Bool.and_eq_true, Bool.not_eq_true', decide_eq_true_eq] at hc; have hD : Go.Sort.scanDown (fun x => !befB x dk[a]!) dk i (b - 1) = j := (by rw [← hJ]; exact down_neg (by rintro ⟨h1, h2⟩; rcases hc with h | h; omega; simp [h] at h2))
  refine AW.exit ?_; (try simp only [thenE, inBlk, Nat.reduceEqDiff, ↓reduceIte])
  clear hK K
  (refine hK _ ?_; clear hK K; (skip))
  (refine AW.seq_k ?_; intro K hK)
  (refine AW.seq_k ?_; intro K hK)
  refine AW.region ?_
  refine awP (op_move rfl rfl) ?_; (simp only [nA, Nat.reduceEqDiff, ↓reduceIte])
  refine awP (op_move rfl rfl) ?_; (simp only [nA, Nat.reduceEqDiff, ↓reduceIte])
  refine awP (op_gtr rfl rfl rfl) ?_; (try simp only [nA, Nat.reduceBEq, Nat.reduceEqDiff, ↓reduceIte, Nat.reduceAdd, Nat.reduceSub])
  refine AWL.nil ?_
  (refine hK _ ?_; clear hK K; (skip))
  refine AW.cond rfl rfl rfl (fun hc => ?_) (fun hc => ?_)
  ·
   (try simp only [hcS] at hc); have hc3 := hc
   (refine AW.seq_k ?_; intro K hK)
   refine AW.region ?_
   (refine awP (op_fa_ptr rfl rfl rfl fl104_1 (by exact sz2) (by decide) rfl) ?_); (try simp only [nA, Nat.reduceBEq, Nat.reduceEqDiff, ↓reduceIte, Nat.reduceAdd, Nat.reduceSub])
   (refine awR (op_load_ptr1 rfl rfl rfl rfl ag98 rfl rfl) ?_); (try simp only [nA, Nat.reduceBEq, Nat.reduceEqDiff, ↓reduceIte, Nat.reduceAdd, Nat.reduceSub])
   refine awP (op_move rfl rfl) ?_; (simp only [nA, Nat.reduceEqDiff, ↓reduceIte])
   refine awP (op_move rfl rfl) ?_; (simp only [nA, Nat.reduceEqDiff, ↓reduceIte])
   refine awJ (op_sw (r := 0) (d := dk) rfl rfl rfl rfl rfl (by omega) (by omega) rfl) ?_; (try simp only [nA, Nat.reduceBEq, Nat.reduceEqDiff, ↓reduceIte, Nat.reduceAdd, Nat.reduceSub])
   refine AWL.nil ?_
   (refine hK _ ?_; clear hK K; (skip))
   (refine AW.seq_k ?_; intro K hK)
   refine AW.region ?_
   refine awP (op_move rfl rfl) ?_; (simp only [nA, Nat.reduceEqDiff, ↓reduceIte])
   refine awP (op_assign rfl rfl) ?_; (simp only [nA])
   refine awP (op_assign rfl rfl) ?_; (try simp only [nA, Nat.reduceBEq, Nat.reduceEqDiff, ↓reduceIte, Nat.reduceAdd, Nat.reduceSub])
   refine AWL.nil ?_
   (refine hK _ ?_; clear hK K; (skip))
   skip
   refine AW.ret ?_; (try simp only [thenE, inBlk, Nat.reduceEqDiff, ↓reduceIte]); rw [show Go.Sort.partition befB d a b pv = (j, true, Go.Sort.swp dk j a) by unfold Go.Sort.partition; simp only [hd0, hU, hD]; rw [if_pos (by omega)]]; simp only [Int.toNat_natCast]; exact RQ.of (.inl rfl) rfl (.tmp (bl rfl) rfl rfl (.tmp (bl rfl) rfl rfl .nil)) (by simp) rfl (one_out rfl)
  (try simp only [hcS] at hc); have hc3 := hc
  refine AW.skip ?_
  (refine hK _ ?_; clear hK K; (skip))
  (refine AW.seq_k ?_; intro K hK)
  refine AW.region ?_
  (refine awP (op_fa_ptr rfl rfl rfl fl104_1 (by exact sz2) (by decide) rfl) ?_); (try simp only [nA, Nat.reduceBEq, Nat.reduceEqDiff, ↓reduceIte, Nat.reduceAdd, Nat.reduceSub])
  (refine awR (op_load_ptr1 rfl rfl rfl rfl ag98 rfl rfl) ?_); (try simp only [nA, Nat.reduceBEq, Nat.reduceEqDiff, ↓reduceIte, Nat.reduceAdd, Nat.reduceSub])
  refine awP (op_move rfl rfl) ?_; (simp only [nA, Nat.reduceEqDiff, ↓reduceIte])
  refine awP (op_move rfl rfl) ?_; (simp only [nA, Nat.reduceEqDiff, ↓reduceIte])
  refine awJ (op_sw (r := 0) (d := dk) rfl rfl rfl rfl rfl (by omega) (by omega) rfl) ?_; (try simp only [nA, Nat.reduceBEq, Nat.reduceEqDiff, ↓reduceIte, Nat.reduceAdd, Nat.reduceSub])
  refine AWL.nil ?_
  (refine hK _ ?_; clear hK K; (skip))
  (refine AW.seq_k ?_; intro K hK)
  refine AW.region ?_
  refine awP (op_move rfl rfl) ?_; (simp only [nA, Nat.reduceEqDiff, ↓reduceIte])
  (refine awP (op_addi rfl rfl rfl (by omega)) ?_); (try simp only [nA, Nat.reduceBEq, Nat.reduceEqDiff, ↓reduceIte, Nat.reduceAdd, Nat.reduceSub])
  refine awP (op_assign rfl rfl) ?_; (simp only [nA])
  refine AWL.nil ?_
  (refine hK _ ?_; clear hK K; (skip))
  (refine AW.seq_k ?_; intro K hK)
  refine AW.region ?_
  refine awP (op_move rfl rfl) ?_; (simp only [nA, Nat.reduceEqDiff, ↓reduceIte])
  (refine awP (op_subi rfl rfl rfl (by omega)) ?_); (try simp only [nA, Nat.reduceBEq, Nat.reduceEqDiff, ↓reduceIte, Nat.reduceAdd, Nat.reduceSub])
  refine awP (op_assign rfl rfl) ?_; (simp only [nA])
  refine AWL.nil ?_
  (refine hK _ ?_; clear hK K; (skip))
  (refine AW.seq_k ?_; intro K hK)
  refine AW.block ?_
  refine AW.loopI (fun (q : Nat × Nat × Array Piece) => [(1, .v (.int .i64 a)), (4, .ptr 1 1 0 0), (10, .v (.int .i64 (q.1 : Nat))), (11, .v (.int .i64 (q.2.1 : Nat)))]) (fun q => ⟨[(0, srt u q.2.2), (1, .own 104 [dataW u])], 2⟩) (fun q => a < q.1 ∧ q.1 ≤ b ∧ a ≤ q.2.1 ∧ q.2.1 ≤ b - 1 ∧ q.2.2.size = d.size ∧ Go.Sort.partLoop befB a q.1 q.2.1 q.2.2 = Go.Sort.partLoop befB a (i + 1) (j - 1) (Go.Sort.swp dk i j)) (fun q => q.2.1 + 1 - q.1) (i + 1, j - 1, Go.Sort.swp dk i j) ⟨by dsimp only; omega, by dsimp only; omega, by dsimp only; omega, by dsimp only; omega, by rw [Go.Sort.size_swp, hs], rfl⟩ ⟨rfl, rfl, vint (by dsimp only; omega), vint (by dsimp only; omega), trivial⟩ (by simp only [Int.toNat_natCast]) ?_; rintro ⟨i2, j2, dm⟩ ρ ⟨hi2a, hi2b, hj2a, hj2b, hsm, hP⟩; dsimp only at hi2a hi2b hj2a hj2b hsm hP ⊢; simp only [updL]
  refine AW.block ?_
  (refine AW.seq_k ?_; intro K hK)
  refine AW.block ?_
  refine AW.loopI (fun (i3 : Nat) => [(1, .v (.int .i64 a)), (4, .ptr 1 1 0 0), (10, .v (.int .i64 (i3 : Nat))), (11, .v (.int .i64 (j2 : Nat)))]) (fun _ => ⟨[(0, srt u dm), (1, .own 104 [dataW u])], 2⟩) (fun i3 => i2 ≤ i3 ∧ i3 ≤ b ∧ Go.Sort.scanUp (fun x => befB x dm[a]!) dm j2 i3 = Go.Sort.scanUp (fun x => befB x dm[a]!) dm j2 i2) (fun i3 => b - i3) i2 ⟨by omega, by omega, rfl⟩ ⟨rfl, rfl, rfl, rfl, trivial⟩ rfl ?_; rintro i3 ρ ⟨hi3a, hi3b, hI3⟩; simp only [updL]
  (refine AW.seq_k ?_; intro K hK)
  (refine AW.seq_k ?_; intro K hK)
  refine AW.region (AWL.quiet ?_)
  refine aqP (op_move rfl rfl) ?_; (simp only [nA, ↓reduceIte])
  refine aqP (op_move rfl rfl) ?_; (simp only [nA, ↓reduceIte])
  refine aqP (op_leq rfl rfl rfl) ?_; (try simp only [nA, Nat.reduceBEq, Nat.reduceEqDiff, ↓reduceIte, Nat.reduceAdd, Nat.reduceSub])
  refine aqP (op_move rfl rfl) ?_; (simp only [nA])
  refine' aqAnd' [_, _, _, _, _] [68,69,70,71,72] rfl rfl rfl rfl rfl rfl rfl rfl rfl rfl rfl rfl (fun hb => ?_) ?_; rotate_left
  ·
   (try simp only [hcS] at hb)
   (refine aqP (op_fa_ptr rfl rfl rfl fl104_0 (by exact sz2) (by decide) rfl) ?_); (try simp only [nA, Nat.reduceBEq, Nat.reduceEqDiff, ↓reduceIte, Nat.reduceAdd, Nat.reduceSub])
   (refine aqR (op_load_ptr1 rfl rfl rfl rfl ag75 rfl rfl) ?_); (try simp only [nA, Nat.reduceBEq, Nat.reduceEqDiff, ↓reduceIte, Nat.reduceAdd, Nat.reduceSub])
   refine aqP (op_move rfl rfl) ?_; (simp only [nA, ↓reduceIte])
   refine aqP (op_move rfl rfl) ?_; (simp only [nA, ↓reduceIte])
   refine aqQ (op_lt (r := 0) (d := dm) rfl rfl rfl rfl rfl (by omega) (by omega) (by omega)) ?_; (try simp only [nA, Nat.reduceBEq, Nat.reduceEqDiff, ↓reduceIte, Nat.reduceAdd, Nat.reduceSub])
   (refine aqSeg rfl rfl rfl ?_; repeat (first | exact fun _ _ => rfl | refine upd_out rfl ?_))
  refine AQ.nil ?_
  (refine hK _ ?_; clear hK K; (skip))
  refine AW.cond rfl rfl rfl (fun hc => ?_) (fun hc => ?_)
  ·
   (try simp only [hcS] at hc); have hc4 := hc; simp only [Int.toNat_natCast, Bool.and_eq_true, Bool.not_eq_true', decide_eq_true_eq] at hc
   refine AW.skip ?_
   (refine hK _ ?_; clear hK K; (skip))
   refine AW.block ?_
   refine AW.region ?_
   refine awP (op_move rfl rfl) ?_; (simp only [nA, Nat.reduceEqDiff, ↓reduceIte])
   (refine awP (op_addi rfl rfl rfl (by omega)) ?_); (try simp only [nA, Nat.reduceBEq, Nat.reduceEqDiff, ↓reduceIte, Nat.reduceAdd, Nat.reduceSub])
   refine awP (op_assign rfl rfl) ?_; (simp only [nA])
   refine AWL.nil ?_
   (try simp only [thenE, inBlk, Nat.reduceEqDiff, ↓reduceIte])
   refine ⟨i3 + 1, ⟨by omega, by omega, by rw [← hI3]; exact (up_pos (p := fun x => befB x dm[a]!) (d := dm) (i := i3) (j := j2) (by omega) hc.2).symm⟩, by omega, ⟨rfl, rfl, rfl, rfl, trivial⟩, (by trivial), (by trivial)⟩
  (try simp only [hcS] at hc); have hc4 := hc; simp only [Int.toNat_natCast, Bool.and_eq_true, Bool.not_eq_true', decide_eq_true_eq] at hc; have hU2 : Go.Sort.scanUp (fun x => befB x dm[a]!) dm j2 i2 = i3 := (by rw [← hI3]; exact up_neg (by rintro ⟨h1, h2⟩; rcases hc with h | h; omega; simp [h2] at h))
  refine AW.exit ?_; (try simp only [thenE, inBlk, Nat.reduceEqDiff, ↓reduceIte])
  clear hK K
  (refine hK _ ?_; clear hK K; (skip))
  (refine AW.seq_k ?_; intro K hK)
  refine AW.block ?_
  refine AW.loopI (fun (j3 : Nat) => [(1, .v (.int .i64 a)), (4, .ptr 1 1 0 0), (10, .v (.int .i64 (i3 : Nat))), (11, .v (.int .i64 (j3 : Nat)))]) (fun _ => ⟨[(0, srt u dm), (1, .own 104 [dataW u])], 2⟩) (fun j3 => a ≤ j3 ∧ j3 ≤ j2 ∧ Go.Sort.scanDown (fun x => !befB x dm[a]!) dm i3 j3 = Go.Sort.scanDown (fun x => !befB x dm[a]!) dm i3 j2) (fun j3 => j3) j2 ⟨by omega, by omega, rfl⟩ ⟨rfl, rfl, rfl, rfl, trivial⟩ rfl ?_; rintro j3 ρ ⟨hj3a, hj3b, hJ3⟩; simp only [updL]
  (refine AW.seq_k ?_; intro K hK)
  (refine AW.seq_k ?_; intro K hK)
  refine AW.region (AWL.quiet ?_)
  refine aqP (op_move rfl rfl) ?_; (simp only [nA, ↓reduceIte])
  refine aqP (op_move rfl rfl) ?_; (simp only [nA, ↓reduceIte])
  refine aqP (op_leq rfl rfl rfl) ?_; (try simp only [nA, Nat.reduceBEq, Nat.reduceEqDiff, ↓reduceIte, Nat.reduceAdd, Nat.reduceSub])
  refine aqP (op_move rfl rfl) ?_; (simp only [nA])
  refine' aqAnd' [_, _, _, _, _, _] [80,81,82,83,84,85] rfl rfl rfl rfl rfl rfl rfl rfl rfl rfl rfl rfl (fun hb => ?_) ?_; rotate_left
  ·
   (try simp only [hcS] at hb)
   (refine aqP (op_fa_ptr rfl rfl rfl fl104_0 (by exact sz2) (by decide) rfl) ?_); (try simp only [nA, Nat.reduceBEq, Nat.reduceEqDiff, ↓reduceIte, Nat.reduceAdd, Nat.reduceSub])
   (refine aqR (op_load_ptr1 rfl rfl rfl rfl ag75 rfl rfl) ?_); (try simp only [nA, Nat.reduceBEq, Nat.reduceEqDiff, ↓reduceIte, Nat.reduceAdd, Nat.reduceSub])
   refine aqP (op_move rfl rfl) ?_; (simp only [nA, ↓reduceIte])
   refine aqP (op_move rfl rfl) ?_; (simp only [nA, ↓reduceIte])
   refine aqQ (op_lt (r := 0) (d := dm) rfl rfl rfl rfl rfl (by omega) (by omega) (by omega)) ?_; (try simp only [nA, Nat.reduceBEq, Nat.reduceEqDiff, ↓reduceIte, Nat.reduceAdd, Nat.reduceSub])
   refine aqP (op_not rfl rfl rfl) ?_; (try simp only [nA, Nat.reduceBEq, Nat.reduceEqDiff, ↓reduceIte, Nat.reduceAdd, Nat.reduceSub])
   (refine aqSeg rfl rfl rfl ?_; repeat (first | exact fun _ _ => rfl | refine upd_out rfl ?_))
  refine AQ.nil ?_
  (refine hK _ ?_; clear hK K; (skip))
  refine AW.cond rfl rfl rfl (fun hc => ?_) (fun hc => ?_)
  ·
   (try simp only [hcS] at hc); have hc5 := hc; simp only [Int.toNat_natCast, Bool.and_eq_true, Bool.not_eq_true', decide_eq_true_eq] at hc
   refine AW.skip ?_
   (refine hK _ ?_; clear hK K; (skip))
   refine AW.block ?_
   refine AW.region ?_
   refine awP (op_move rfl rfl) ?_; (simp only [nA, Nat.reduceEqDiff, ↓reduceIte])
   (refine awP (op_subi rfl rfl rfl (by omega)) ?_); (try simp only [nA, Nat.reduceBEq, Nat.reduceEqDiff, ↓reduceIte, Nat.reduceAdd, Nat.reduceSub])
   refine awP (op_assign rfl rfl) ?_; (simp only [nA])
   refine AWL.nil ?_
   (try simp only [thenE, inBlk, Nat.reduceEqDiff, ↓reduceIte])
   refine ⟨j3 - 1, ⟨by omega, by omega, by rw [← hJ3]; exact (down_pos (p := fun x => !befB x dm[a]!) (d := dm) (i := i3) (j := j3) (by omega) (by omega) (by simp [hc.2])).symm⟩, by omega, ⟨rfl, rfl, rfl, vint (by omega), trivial⟩, (by trivial), (by trivial)⟩
  (try simp only [hcS] at hc); have hc5 := hc; simp only [Int.toNat_natCast, Bool.and_eq_true, Bool.not_eq_true', decide_eq_true_eq] at hc; have hD2 : Go.Sort.scanDown (fun x => !befB x dm[a]!) dm i3 j2 = j3 := (by rw [← hJ3]; exact down_neg (by rintro ⟨h1, h2⟩; rcases hc with h | h; omega; simp [h] at h2))
  refine AW.exit ?_; (try simp only [thenE, inBlk, Nat.reduceEqDiff, ↓reduceIte])
  clear hK K
  (refine hK _ ?_; clear hK K; (skip))
  (refine AW.seq_k ?_; intro K hK)
  (refine AW.seq_k ?_; intro K hK)
  refine AW.region ?_
  refine awP (op_move rfl rfl) ?_; (simp only [nA, Nat.reduceEqDiff, ↓reduceIte])
  refine awP (op_move rfl rfl) ?_; (simp only [nA, Nat.reduceEqDiff, ↓reduceIte])
  refine awP (op_gtr rfl rfl rfl) ?_; (try simp only [nA, Nat.reduceBEq, Nat.reduceEqDiff, ↓reduceIte, Nat.reduceAdd, Nat.reduceSub])
  refine AWL.nil ?_
  (refine hK _ ?_; clear hK K; (skip))
  refine AW.cond rfl rfl rfl (fun hc => ?_) (fun hc => ?_)
  ·
   (try simp only [hcS] at hc); have hc6 := hc
   refine AW.exit ?_; (try simp only [thenE, inBlk, Nat.reduceEqDiff, ↓reduceIte])
   clear hK K
   (refine hK _ ?_; clear hK K; (skip))
   (refine AW.seq_k ?_; intro K hK)
   refine AW.region ?_
   (refine awP (op_fa_ptr rfl rfl rfl fl104_1 (by exact sz2) (by decide) rfl) ?_); (try simp only [nA, Nat.reduceBEq, Nat.reduceEqDiff, ↓reduceIte, Nat.reduceAdd, Nat.reduceSub])
   (refine awR (op_load_ptr1 rfl rfl rfl rfl ag98 rfl rfl) ?_); (try simp only [nA, Nat.reduceBEq, Nat.reduceEqDiff, ↓reduceIte, Nat.reduceAdd, Nat.reduceSub])
   refine awP (op_move rfl rfl) ?_; (simp only [nA, Nat.reduceEqDiff, ↓reduceIte])
   refine awP (op_move rfl rfl) ?_; (simp only [nA, Nat.reduceEqDiff, ↓reduceIte])
   refine awJ (op_sw (r := 0) (d := dm) rfl rfl rfl rfl rfl (by omega) (by omega) rfl) ?_; (try simp only [nA, Nat.reduceBEq, Nat.reduceEqDiff, ↓reduceIte, Nat.reduceAdd, Nat.reduceSub])
   refine AWL.nil ?_
   (refine hK _ ?_; clear hK K; (skip))
   (refine AW.seq_k ?_; intro K hK)
   refine AW.region ?_
   refine awP (op_move rfl rfl) ?_; (simp only [nA, Nat.reduceEqDiff, ↓reduceIte])
   refine awP (op_assign rfl rfl) ?_; (simp only [nA])
   refine awP (op_assign rfl rfl) ?_; (try simp only [nA, Nat.reduceBEq, Nat.reduceEqDiff, ↓reduceIte, Nat.reduceAdd, Nat.reduceSub])
   refine AWL.nil ?_
   (refine hK _ ?_; clear hK K; (skip))
   skip
   refine AW.ret ?_; (try simp only [thenE, inBlk, Nat.reduceEqDiff, ↓reduceIte]); rw [show Go.Sort.partition befB d a b pv = (j3, false, Go.Sort.swp dm j3 a) by unfold Go.Sort.partition; simp only [hd0, hU, hD]; rw [if_neg (by omega), ← hP, part_stop hU2 hD2 (by omega)]]; simp only [Int.toNat_natCast]; exact RQ.of (.inl rfl) rfl (.tmp (bl rfl) rfl rfl (.tmp (bl rfl) rfl rfl .nil)) (by simp) rfl (one_out rfl)
  (try simp only [hcS] at hc); have hc6 := hc
  refine AW.skip ?_
  (refine hK _ ?_; clear hK K; (skip))
  (refine AW.seq_k ?_; intro K hK)
  refine AW.region ?_
  (refine awP (op_fa_ptr rfl rfl rfl fl104_1 (by exact sz2) (by decide) rfl) ?_); (try simp only [nA, Nat.reduceBEq, Nat.reduceEqDiff, ↓reduceIte, Nat.reduceAdd, Nat.reduceSub])
  (refine awR (op_load_ptr1 rfl rfl rfl rfl ag98 rfl rfl) ?_); (try simp only [nA, Nat.reduceBEq, Nat.reduceEqDiff, ↓reduceIte, Nat.reduceAdd, Nat.reduceSub])
  refine awP (op_move rfl rfl) ?_; (simp only [nA, Nat.reduceEqDiff, ↓reduceIte])
  refine awP (op_move rfl rfl) ?_; (simp only [nA, Nat.reduceEqDiff, ↓reduceIte])
  refine awJ (op_sw (r := 0) (d := dm) rfl rfl rfl rfl rfl (by omega) (by omega) rfl) ?_; (try simp only [nA, Nat.reduceBEq, Nat.reduceEqDiff, ↓reduceIte, Nat.reduceAdd, Nat.reduceSub])
  refine AWL.nil ?_
  (refine hK _ ?_; clear hK K; (skip))
  (refine AW.seq_k ?_; intro K hK)
  refine AW.region ?_
  refine awP (op_move rfl rfl) ?_; (simp only [nA, Nat.reduceEqDiff, ↓reduceIte])
  (refine awP (op_addi rfl rfl rfl (by omega)) ?_); (try simp only [nA, Nat.reduceBEq, Nat.reduceEqDiff, ↓reduceIte, Nat.reduceAdd, Nat.reduceSub])
  refine awP (op_assign rfl rfl) ?_; (simp only [nA])
  refine AWL.nil ?_
  (refine hK _ ?_; clear hK K; (skip))
  refine AW.region ?_
  refine awP (op_move rfl rfl) ?_; (simp only [nA, Nat.reduceEqDiff, ↓reduceIte])
  (refine awP (op_subi rfl rfl rfl (by omega)) ?_); (try simp only [nA, Nat.reduceBEq, Nat.reduceEqDiff, ↓reduceIte, Nat.reduceAdd, Nat.reduceSub])
  refine awP (op_assign rfl rfl) ?_; (simp only [nA])
  refine AWL.nil ?_
  (try simp only [thenE, inBlk, Nat.reduceEqDiff, ↓reduceIte])
  refine ⟨(i3 + 1, j3 - 1, Go.Sort.swp dm i3 j3), ⟨by dsimp only; omega, by dsimp only; omega, by dsimp only; omega, by dsimp only; omega, by rw [Go.Sort.size_swp, hsm], by rw [← hP]; exact (part_step hU2 hD2 (by omega) (by omega)).symm⟩, by dsimp only; omega, ⟨rfl, rfl, vint (by dsimp only; omega), vint (by dsimp only; omega), trivial⟩, (by simp only [Int.toNat_natCast]), (by trivial)⟩
end Go.Proofs.Ytmdohphcolffmaa
namespace Go.Proofs.Ytmdohphcolffmaa
open Go.RowKit
set_option linter.unusedSimpArgs false
set_option linter.unusedVariables false
set_option maxRecDepth 100000
section
open Go.Sort
variable {lt : Piece → Piece → Bool} {d : Array Piece} {i j : Nat}
theorem peq_stop {a i2 j2 : Nat} (h1 : scanUp (fun x => !lt d[a]! x) d j i = i2) (h2 : scanDown (fun x => lt d[a]! x) d i2 j = j2) (h : j2 < i2) : partEqLoop lt a i j d = (i2, d) := by
  rw [partEqLoop]; simp only [h1, h2]; rw [if_pos h]
theorem peq_step {a i2 j2 : Nat} (h1 : scanUp (fun x => !lt d[a]! x) d j i = i2) (h2 : scanDown (fun x => lt d[a]! x) d i2 j = j2) (h : ¬ j2 < i2) (hg : (j2 - 1) + 1 - (i2 + 1) < j + 1 - i) : partEqLoop lt a i j d = partEqLoop lt a (i2 + 1) (j2 - 1) (swp d i2 j2) := by
  rw [partEqLoop]; simp only [h1, h2]; rw [if_neg h, dif_pos hg]
end
set_option maxHeartbeats 8000000 in
theorem C80 {u : Value} {d : Array Piece} {a b pv : Nat} (hab : a < b) (hp : a ≤ pv ∧ pv < b) (hb : b ≤ d.size) (hl : d.size ≤ 1000) : Fn Try.prog 80 [srt u d] [.agg (dataW u), .v (.int .i64 a), .v (.int .i64 b), .v (.int .i64 pv)] [.v (.int .i64 (Go.Sort.partitionEqual befB d a b pv).1)] [srt u (Go.Sort.partitionEqual befB d a b pv).2] := by
  refine Spec.body Try.func80 rfl Try.ntmps80 (by simp) rfl ?_; intro S0 own0 v0 w0
  (refine AW.seq_k ?_; intro K hK)
  refine AW.region ?_
  refine awJ (op_box rfl rfl rfl sz104 rfl) ?_; (simp only [nA, Nat.reduceBEq, Nat.reduceEqDiff, ↓reduceIte])
  refine awP (op_assign rfl rfl) ?_; (try simp only [nA, Nat.reduceBEq, Nat.reduceEqDiff, ↓reduceIte, Nat.reduceAdd, Nat.reduceSub])
  refine AWL.nil ?_
  (refine hK _ ?_; clear hK K; (try simp only [nA, Nat.reduceBEq, Nat.reduceEqDiff, ↓reduceIte, Nat.reduceAdd, Nat.reduceSub]))
  (refine AW.seq_k ?_; intro K hK)
  refine AW.region ?_
  (refine awP (op_fa_ptr rfl rfl rfl fl104_1 (by exact sz2) (by decide) rfl) ?_); (try simp only [nA, Nat.reduceBEq, Nat.reduceEqDiff, ↓reduceIte, Nat.reduceAdd, Nat.reduceSub])
  (refine awR (op_load_ptr1 rfl rfl rfl rfl ag98 rfl rfl) ?_); (try simp only [nA, Nat.reduceBEq, Nat.reduceEqDiff, ↓reduceIte, Nat.reduceAdd, Nat.reduceSub])
  refine awP (op_move rfl rfl) ?_; (simp only [nA, ↓reduceIte])
  refine awP (op_move rfl rfl) ?_; (simp only [nA, ↓reduceIte])
  refine awJ (op_sw (r := 0) (d := d) rfl rfl rfl rfl rfl (by omega) (by omega) rfl) ?_; (try simp only [nA, Nat.reduceBEq, Nat.reduceEqDiff, ↓reduceIte, Nat.reduceAdd, Nat.reduceSub])
  refine AWL.nil ?_
  (refine hK _ ?_; clear hK K; (skip))
  (refine AW.seq_k ?_; intro K hK)
  refine AW.region ?_
  refine awP (op_move rfl rfl) ?_; (simp only [nA, ↓reduceIte])
  (refine awP (op_addi rfl rfl rfl (by omega)) ?_); (try simp only [nA, Nat.reduceBEq, Nat.reduceEqDiff, ↓reduceIte, Nat.reduceAdd, Nat.reduceSub])
  refine awP (op_move rfl rfl) ?_; (simp only [nA, ↓reduceIte])
  (refine awP (op_subi rfl rfl rfl (by omega)) ?_); (try simp only [nA, Nat.reduceBEq, Nat.reduceEqDiff, ↓reduceIte, Nat.reduceAdd, Nat.reduceSub])
  refine awP (op_assign rfl rfl) ?_; (simp only [nA, ↓reduceIte])
  refine awP (op_assign rfl rfl) ?_; (simp only [nA, ↓reduceIte])
  refine AWL.nil ?_
  (refine hK _ ?_; clear hK K; (skip))
  (refine AW.seq_k ?_; intro K hK)
  refine AW.block ?_
  refine AW.loopI (fun (q : Nat × Nat × Array Piece) => [(1, .v (.int .i64 a)), (4, .ptr 1 1 0 0), (9, .v (.int .i64 (q.1 : Nat))), (10, .v (.int .i64 (q.2.1 : Nat)))]) (fun q => ⟨[(0, srt u q.2.2), (1, .own 104 [dataW u])], 2⟩) (fun q => a < q.1 ∧ q.1 ≤ b ∧ a ≤ q.2.1 ∧ q.2.1 ≤ b - 1 ∧ q.2.2.size = d.size ∧ Go.Sort.partEqLoop befB a q.1 q.2.1 q.2.2 = Go.Sort.partitionEqual befB d a b pv) (fun q => q.2.1 + 1 - q.1) (a + 1, b - 1, Go.Sort.swp d a pv) ⟨by dsimp only; omega, by dsimp only; omega, by dsimp only; omega, by dsimp only; omega, Go.Sort.size_swp _ _ _, rfl⟩ ⟨rfl, rfl, vint (by dsimp only; omega), vint (by dsimp only; omega), trivial⟩ (by simp only [Int.toNat_natCast]; rfl) ?_; rintro ⟨i2, j2, dm⟩ ρ ⟨hi2a, hi2b, hj2a, hj2b, hsm, hP⟩; dsimp only at hi2a hi2b hj2a hj2b hsm hP ⊢; simp only [updL]
  refine AW.block ?_
  (refine AW.seq_k ?_; intro K hK)
  refine AW.block ?_
  refine AW.loopI (fun (i3 : Nat) => [(1, .v (.int .i64 a)), (4, .ptr 1 1 0 0), (9, .v (.int .i64 (i3 : Nat))), (10, .v (.int .i64 (j2 : Nat)))]) (fun _ => ⟨[(0, srt u dm), (1, .own 104 [dataW u])], 2⟩) (fun i3 => i2 ≤ i3 ∧ i3 ≤ b ∧ Go.Sort.scanUp (fun x => !befB dm[a]! x) dm j2 i3 = Go.Sort.scanUp (fun x => !befB dm[a]! x) dm j2 i2) (fun i3 => b - i3) i2 ⟨by omega, by omega, rfl⟩ ⟨rfl, rfl, rfl, rfl, trivial⟩ rfl ?_; rintro i3 ρ ⟨hi3a, hi3b, hI3⟩; simp only [updL]
  (refine AW.seq_k ?_; intro K hK)
  (refine AW.seq_k ?_; intro K hK)
  refine AW.region (AWL.quiet ?_)
  refine aqP (op_move rfl rfl) ?_; (simp only [nA, ↓reduceIte])
  refine aqP (op_move rfl rfl) ?_; (simp only [nA, ↓reduceIte])
  refine aqP (op_leq rfl rfl rfl) ?_; (try simp only [nA, Nat.reduceBEq, Nat.reduceEqDiff, ↓reduceIte, Nat.reduceAdd, Nat.reduceSub])
  refine aqP (op_move rfl rfl) ?_; (simp only [nA])
  refine' aqAnd' [_, _, _, _, _, _] [24,25,26,27,28,29] rfl rfl rfl rfl rfl rfl rfl rfl rfl rfl rfl rfl (fun hb => ?_) ?_; rotate_left
  ·
   (try simp only [hcS] at hb)
   (refine aqP (op_fa_ptr rfl rfl rfl fl104_0 (by exact sz2) (by decide) rfl) ?_); (try simp only [nA, Nat.reduceBEq, Nat.reduceEqDiff, ↓reduceIte, Nat.reduceAdd, Nat.reduceSub])
   (refine aqR (op_load_ptr1 rfl rfl rfl rfl ag75 rfl rfl) ?_); (try simp only [nA, Nat.reduceBEq, Nat.reduceEqDiff, ↓reduceIte, Nat.reduceAdd, Nat.reduceSub])
   refine aqP (op_move rfl rfl) ?_; (simp only [nA, ↓reduceIte])
   refine aqP (op_move rfl rfl) ?_; (simp only [nA, ↓reduceIte])
   refine aqQ (op_lt (r := 0) (d := dm) rfl rfl rfl rfl rfl (by omega) (by omega) (by omega)) ?_; (try simp only [nA, Nat.reduceBEq, Nat.reduceEqDiff, ↓reduceIte, Nat.reduceAdd, Nat.reduceSub])
   refine aqP (op_not rfl rfl rfl) ?_; (try simp only [nA, Nat.reduceBEq, Nat.reduceEqDiff, ↓reduceIte, Nat.reduceAdd, Nat.reduceSub])
   (refine aqSeg rfl rfl rfl ?_; repeat (first | exact fun _ _ => rfl | refine upd_out rfl ?_))
  refine AQ.nil ?_
  (refine hK _ ?_; clear hK K; (skip))
  refine AW.cond rfl rfl rfl (fun hc => ?_) (fun hc => ?_)
  ·
   (try simp only [hcS] at hc); have hc1 := hc; simp only [Int.toNat_natCast, Bool.and_eq_true, Bool.not_eq_true', decide_eq_true_eq] at hc
   refine AW.skip ?_
   (refine hK _ ?_; clear hK K; (skip))
   refine AW.block ?_
   refine AW.region ?_
   refine awP (op_move rfl rfl) ?_; (simp only [nA, Nat.reduceEqDiff, ↓reduceIte])
   (refine awP (op_addi rfl rfl rfl (by omega)) ?_); (try simp only [nA, Nat.reduceBEq, Nat.reduceEqDiff, ↓reduceIte, Nat.reduceAdd, Nat.reduceSub])
   refine awP (op_assign rfl rfl) ?_; (simp only [nA])
   refine AWL.nil ?_
   (try simp only [thenE, inBlk, Nat.reduceEqDiff, ↓reduceIte])
   refine ⟨i3 + 1, ⟨by omega, by omega, by rw [← hI3]; exact (up_pos (p := fun x => !befB dm[a]! x) (d := dm) (i := i3) (j := j2) (by omega) (by simp [hc.2])).symm⟩, by omega, ⟨rfl, rfl, rfl, rfl, trivial⟩, (by trivial), (by trivial)⟩
  (try simp only [hcS] at hc); have hc1 := hc; simp only [Int.toNat_natCast, Bool.and_eq_true, Bool.not_eq_true', decide_eq_true_eq] at hc; have hU2 : Go.Sort.scanUp (fun x => !befB dm[a]! x) dm j2 i2 = i3 := (by rw [← hI3]; exact up_neg (by rintro ⟨h1, h2⟩; rcases hc with h | h; omega; simp [h] at h2))
  refine AW.exit ?_; (try simp only [thenE, inBlk, Nat.reduceEqDiff, ↓reduceIte])
  clear hK K
  (refine hK _ ?_; clear hK K; (skip))
  (refine AW.seq_k ?_; intro K hK)
  refine AW.block ?_
  refine AW.loopI (fun (j3 : Nat) => [(1, .v (.int .i64 a)), (4, .ptr 1 1 0 0), (9, .v (.int .i64 (i3 : Nat))), (10, .v (.int .i64 (j3 : Nat)))]) (fun _ => ⟨[(0, srt u dm), (1, .own 104 [dataW u])], 2⟩) (fun j3 => a ≤ j3 ∧ j3 ≤ j2 ∧ Go.Sort.scanDown (fun x => befB dm[a]! x) dm i3 j3 = Go.Sort.scanDown (fun x => befB dm[a]! x) dm i3 j2) (fun j3 => j3) j2 ⟨by omega, by omega, rfl⟩ ⟨rfl, rfl, rfl, rfl, trivial⟩ rfl ?_; rintro j3 ρ ⟨hj3a, hj3b, hJ3⟩; simp only [updL]
  (refine AW.seq_k ?_; intro K hK)
  (refine AW.seq_k ?_; intro K hK)
  refine AW.region (AWL.quiet ?_)
  refine aqP (op_move rfl rfl) ?_; (simp only [nA, ↓reduceIte])
  refine aqP (op_move rfl rfl) ?_; (simp only [nA, ↓reduceIte])
  refine aqP (op_leq rfl rfl rfl) ?_; (try simp only [nA, Nat.reduceBEq, Nat.reduceEqDiff, ↓reduceIte, Nat.reduceAdd, Nat.reduceSub])
  refine aqP (op_move rfl rfl) ?_; (simp only [nA])
  refine' aqAnd' [_, _, _, _, _] [37,38,39,40,41] rfl rfl rfl rfl rfl rfl rfl rfl rfl rfl rfl rfl (fun hb => ?_) ?_; rotate_left
  ·
   (try simp only [hcS] at hb)
   (refine aqP (op_fa_ptr rfl rfl rfl fl104_0 (by exact sz2) (by decide) rfl) ?_); (try simp only [nA, Nat.reduceBEq, Nat.reduceEqDiff, ↓reduceIte, Nat.reduceAdd, Nat.reduceSub])
   (refine aqR (op_load_ptr1 rfl rfl rfl rfl ag75 rfl rfl) ?_); (try simp only [nA, Nat.reduceBEq, Nat.reduceEqDiff, ↓reduceIte, Nat.reduceAdd, Nat.reduceSub])
   refine aqP (op_move rfl rfl) ?_; (simp only [nA, ↓reduceIte])
   refine aqP (op_move rfl rfl) ?_; (simp only [nA, ↓reduceIte])
   refine aqQ (op_lt (r := 0) (d := dm) rfl rfl rfl rfl rfl (by omega) (by omega) (by omega)) ?_; (try simp only [nA, Nat.reduceBEq, Nat.reduceEqDiff, ↓reduceIte, Nat.reduceAdd, Nat.reduceSub])
   (refine aqSeg rfl rfl rfl ?_; repeat (first | exact fun _ _ => rfl | refine upd_out rfl ?_))
  refine AQ.nil ?_
  (refine hK _ ?_; clear hK K; (skip))
  refine AW.cond rfl rfl rfl (fun hc => ?_) (fun hc => ?_)
  ·
   (try simp only [hcS] at hc); have hc2 := hc; simp only [Int.toNat_natCast, Bool.and_eq_true, Bool.not_eq_true', decide_eq_true_eq] at hc
   refine AW.skip ?_
   (refine hK _ ?_; clear hK K; (skip))
   refine AW.block ?_
   refine AW.region ?_
   refine awP (op_move rfl rfl) ?_; (simp only [nA, Nat.reduceEqDiff, ↓reduceIte])
   (refine awP (op_subi rfl rfl rfl (by omega)) ?_); (try simp only [nA, Nat.reduceBEq, Nat.reduceEqDiff, ↓reduceIte, Nat.reduceAdd, Nat.reduceSub])
   refine awP (op_assign rfl rfl) ?_; (simp only [nA])
   refine AWL.nil ?_
   (try simp only [thenE, inBlk, Nat.reduceEqDiff, ↓reduceIte])
   refine ⟨j3 - 1, ⟨by omega, by omega, by rw [← hJ3]; exact (down_pos (p := fun x => befB dm[a]! x) (d := dm) (i := i3) (j := j3) (by omega) (by omega) hc.2).symm⟩, by omega, ⟨rfl, rfl, rfl, vint (by omega), trivial⟩, (by trivial), (by trivial)⟩
  (try simp only [hcS] at hc); have hc2 := hc; simp only [Int.toNat_natCast, Bool.and_eq_true, Bool.not_eq_true', decide_eq_true_eq] at hc; have hD2 : Go.Sort.scanDown (fun x => befB dm[a]! x) dm i3 j2 = j3 := (by rw [← hJ3]; exact down_neg (by rintro ⟨h1, h2⟩; rcases hc with h | h; omega; simp [h] at h2))
  refine AW.exit ?_; (try simp only [thenE, inBlk, Nat.reduceEqDiff, ↓reduceIte])
  clear hK K
  (refine hK _ ?_; clear hK K; (skip))
  (refine AW.seq_k ?_; intro K hK)
  (refine AW.seq_k ?_; intro K hK)
  refine AW.region ?_
  refine awP (op_move rfl rfl) ?_; (simp only [nA, Nat.reduceEqDiff, ↓reduceIte])
  refine awP (op_move rfl rfl) ?_; (simp only [nA, Nat.reduceEqDiff, ↓reduceIte])
  refine awP (op_gtr rfl rfl rfl) ?_; (try simp only [nA, Nat.reduceBEq, Nat.reduceEqDiff, ↓reduceIte, Nat.reduceAdd, Nat.reduceSub])
  refine AWL.nil ?_
  (refine hK _ ?_; clear hK K; (skip))
  refine AW.cond rfl rfl rfl (fun hc => ?_) (fun hc => ?_)
  ·
   (try simp only [hcS] at hc); have hc3 := hc
   refine AW.exit ?_; (try simp only [thenE, inBlk, Nat.reduceEqDiff, ↓reduceIte])
   clear hK K
   (refine hK _ ?_; clear hK K; (skip))
   (refine AW.seq_k ?_; intro K hK)
   refine AW.region ?_
   refine awP (op_move rfl rfl) ?_; (simp only [nA, Nat.reduceEqDiff, ↓reduceIte])
   refine awP (op_assign rfl rfl) ?_; (simp only [nA])
   refine AWL.nil ?_
   (refine hK _ ?_; clear hK K; (skip))
   skip
   refine AW.ret ?_; (try simp only [thenE, inBlk, Nat.reduceEqDiff, ↓reduceIte]); rw [← hP, peq_stop hU2 hD2 (by omega)]; exact RQ.of (.inl rfl) rfl (.tmp (bl rfl) rfl rfl .nil) (by simp) rfl (one_out rfl)
  (try simp only [hcS] at hc); have hc3 := hc
  refine AW.skip ?_
  (refine hK _ ?_; clear hK K; (skip))
  (refine AW.seq_k ?_; intro K hK)
  refine AW.region ?_
  (refine awP (op_fa_ptr rfl rfl rfl fl104_1 (by exact sz2) (by decide) rfl) ?_); (try simp only [nA, Nat.reduceBEq, Nat.reduceEqDiff, ↓reduceIte, Nat.reduceAdd, Nat.reduceSub])
  (refine awR (op_load_ptr1 rfl rfl rfl rfl ag98 rfl rfl) ?_); (try simp only [nA, Nat.reduceBEq, Nat.reduceEqDiff, ↓reduceIte, Nat.reduceAdd, Nat.reduceSub])
  refine awP (op_move rfl rfl) ?_; (simp only [nA, Nat.reduceEqDiff, ↓reduceIte])
  refine awP (op_move rfl rfl) ?_; (simp only [nA, Nat.reduceEqDiff, ↓reduceIte])
  refine awJ (op_sw (r := 0) (d := dm) rfl rfl rfl rfl rfl (by omega) (by omega) rfl) ?_; (try simp only [nA, Nat.reduceBEq, Nat.reduceEqDiff, ↓reduceIte, Nat.reduceAdd, Nat.reduceSub])
  refine AWL.nil ?_
  (refine hK _ ?_; clear hK K; (skip))
  (refine AW.seq_k ?_; intro K hK)
  refine AW.region ?_
  refine awP (op_move rfl rfl) ?_; (simp only [nA, Nat.reduceEqDiff, ↓reduceIte])
  (refine awP (op_addi rfl rfl rfl (by omega)) ?_); (try simp only [nA, Nat.reduceBEq, Nat.reduceEqDiff, ↓reduceIte, Nat.reduceAdd, Nat.reduceSub])
  refine awP (op_assign rfl rfl) ?_; (simp only [nA])
  refine AWL.nil ?_
  (refine hK _ ?_; clear hK K; (skip))
  refine AW.region ?_
  refine awP (op_move rfl rfl) ?_; (simp only [nA, Nat.reduceEqDiff, ↓reduceIte])
  (refine awP (op_subi rfl rfl rfl (by omega)) ?_); (try simp only [nA, Nat.reduceBEq, Nat.reduceEqDiff, ↓reduceIte, Nat.reduceAdd, Nat.reduceSub])
  refine awP (op_assign rfl rfl) ?_; (simp only [nA])
  refine AWL.nil ?_
  (try simp only [thenE, inBlk, Nat.reduceEqDiff, ↓reduceIte])
  refine ⟨(i3 + 1, j3 - 1, Go.Sort.swp dm i3 j3), ⟨by dsimp only; omega, by dsimp only; omega, by dsimp only; omega, by dsimp only; omega, by rw [Go.Sort.size_swp, hsm], by rw [← hP]; exact (peq_step hU2 hD2 (by omega) (by omega)).symm⟩, by dsimp only; omega, ⟨rfl, rfl, vint (by dsimp only; omega), vint (by dsimp only; omega), trivial⟩, (by simp only [Int.toNat_natCast]), (by trivial)⟩
end Go.Proofs.Ytmdohphcolffmaa
namespace Go.Proofs.Ytmdohphcolffmaa
open Go.RowKit
set_option linter.unusedSimpArgs false
set_option linter.unusedVariables false
set_option maxRecDepth 100000
section
open Go.Sort
variable {p : Piece → Bool} {lt : Piece → Piece → Bool}
theorem up_bd {d : Array Piece} {j : Nat} : ∀ (n i : Nat), j + 1 - i = n → i ≤ scanUp p d j i ∧ (scanUp p d j i ≤ j + 1 ∨ scanUp p d j i = i) := by
  intro n
  induction n with
  | zero =>
    intro i h
    rw [up_neg (by omega)]
    exact ⟨Nat.le_refl _, .inr rfl⟩
  | succ n ih =>
    intro i h
    by_cases hc : i ≤ j ∧ p d[i]! = true
    · rw [up_pos hc.1 hc.2]
      have := ih (i + 1) (by omega)
      omega
    rw [up_neg hc]
    exact ⟨Nat.le_refl _, .inr rfl⟩
theorem down_bd {d : Array Piece} {i : Nat} (hi : 0 < i) : ∀ j, scanDown p d i j ≤ j ∧ (i ≤ scanDown p d i j + 1 ∨ scanDown p d i j = j) := by
  intro j
  induction j with
  | zero => exact ⟨Nat.le_refl _, .inr rfl⟩
  | succ j ih =>
    by_cases hc : i ≤ j + 1 ∧ p d[j + 1]! = true
    · rw [down_pos (by omega) hc.1 hc.2, Nat.add_sub_cancel]
      omega
    rw [down_neg hc]
    exact ⟨Nat.le_refl _, .inr rfl⟩
theorem peq_facts {a b : Nat} : ∀ (n i j : Nat) (d : Array Piece), j + 1 - i = n → a < i → i ≤ b → j + 1 ≤ b → a < (partEqLoop lt a i j d).1 ∧ (partEqLoop lt a i j d).1 ≤ b ∧ (partEqLoop lt a i j d).2.size = d.size := by
  intro n
  induction n using Nat.strongRecOn with
  | _ n ih =>
    intro i j d hn hi1 hi2 hj
    have hu := up_bd (p := fun x => !lt d[a]! x) (d := d) (j := j) _ i rfl
    generalize h1 : scanUp (fun x => !lt d[a]! x) d j i = i2 at hu
    have hd := down_bd (p := fun x => lt d[a]! x) (d := d) (i := i2) (by omega) j
    generalize h2 : scanDown (fun x => lt d[a]! x) d i2 j = j2 at hd
    by_cases h : j2 < i2
    · rw [peq_stop h1 h2 h]
      exact ⟨by dsimp only; omega, by dsimp only; omega, rfl⟩
    rw [peq_step h1 h2 h (by omega)]
    have := ih _ (by omega) (i2 + 1) (j2 - 1) (swp d i2 j2) rfl (by omega) (by omega) (by omega)
    rw [size_swp] at this
    exact this
theorem part_facts {a b : Nat} : ∀ (n i j : Nat) (d : Array Piece), j + 1 - i = n → a < i → a ≤ j → j < b → a ≤ (partLoop lt a i j d).1 ∧ (partLoop lt a i j d).1 < b ∧ (partLoop lt a i j d).2.size = d.size := by
  intro n
  induction n using Nat.strongRecOn with
  | _ n ih =>
    intro i j d hn hi1 hj1 hj
    have hu := up_bd (p := fun x => lt x d[a]!) (d := d) (j := j) _ i rfl
    generalize h1 : scanUp (fun x => lt x d[a]!) d j i = i2 at hu
    have hd := down_bd (p := fun x => !lt x d[a]!) (d := d) (i := i2) (by omega) j
    generalize h2 : scanDown (fun x => !lt x d[a]!) d i2 j = j2 at hd
    by_cases h : j2 < i2
    · rw [part_stop h1 h2 h]
      exact ⟨by dsimp only; omega, by dsimp only; omega, rfl⟩
    rw [part_step h1 h2 h (by omega)]
    have := ih _ (by omega) (i2 + 1) (j2 - 1) (swp d i2 j2) rfl (by omega) (by omega) (by omega)
    rw [size_swp] at this
    exact this
theorem eq_facts {d : Array Piece} {a b pv : Nat} (hab : a < b) : a < (partitionEqual lt d a b pv).1 ∧ (partitionEqual lt d a b pv).1 ≤ b ∧ (partitionEqual lt d a b pv).2.size = d.size := by
  have := peq_facts (lt := lt) (a := a) (b := b) _ (a + 1) (b - 1) (swp d a pv) rfl (by omega) (by omega) (by omega)
  rw [size_swp] at this
  exact this
theorem p_facts {d : Array Piece} {a b pv : Nat} (hab : a < b) : a ≤ (partition lt d a b pv).1 ∧ (partition lt d a b pv).1 < b ∧ (partition lt d a b pv).2.2.size = d.size := by
  unfold partition
  dsimp only
  have hu := up_bd (p := fun x => lt x (swp d a pv)[a]!) (d := swp d a pv) (j := b - 1) _ (a + 1) rfl
  generalize h1 : scanUp (fun x => lt x (swp d a pv)[a]!) (swp d a pv) (b - 1) (a + 1) = i2 at hu
  have hd := down_bd (p := fun x => !lt x (swp d a pv)[a]!) (d := swp d a pv) (i := i2) (by omega) (b - 1)
  generalize h2 : scanDown (fun x => !lt x (swp d a pv)[a]!) (swp d a pv) i2 (b - 1) = j2 at hd
  split
  · exact ⟨by dsimp only; omega, by dsimp only; omega, by simp only [size_swp]⟩
  have := part_facts (lt := lt) (a := a) (b := b) _ (i2 + 1) (j2 - 1) (swp (swp d a pv) i2 j2) rfl (by omega) (by omega) (by omega)
  simp only [size_swp] at this ⊢
  exact this
end
end Go.Proofs.Ytmdohphcolffmaa
namespace Go.Proofs.Ytmdohphcolffmaa
open Go.RowKit
set_option linter.unusedSimpArgs false
set_option linter.unusedVariables false
set_option maxRecDepth 100000
section
open Go.Sort
variable {lt : Piece → Piece → Bool} {d d1 d2 : Array Piece} {a b lim lim1 pv : Nat} {wb wp : Bool} {hint : Hint}
theorem pdq_ins (h : b - a ≤ 12) : pdq lt d a b lim wb wp = insertionSort lt d a b := by rw [pdq, if_pos h]
theorem pdq_heap (h : ¬ b - a ≤ 12) (hl : lim = 0) : pdq lt d a b lim wb wp = heapSort lt d a b := by rw [pdq, if_neg h, if_pos hl]
/-- What a round does ahead of the partition. -/
structure Round (lt : Piece → Piece → Bool) (d : Array Piece) (a b lim : Nat) (wb : Bool) (d1 : Array Piece) (lim1 : Nat) (d2 : Array Piece) (pv : Nat) (hint : Hint) : Prop where
  h12 : ¬ b - a ≤ 12
  hl : ¬ lim = 0
  h50 : b - a < 50
  e1 : (if !wb then breakPatterns d a b else d) = d1
  e2 : (if !wb then lim - 1 else lim) = lim1
  e3 : (if (choosePivot lt d1 a b).2 = .decreasing then reverseRange d1 a b else d1) = d2
  e4 : (if (choosePivot lt d1 a b).2 = .decreasing then (b - 1) - ((choosePivot lt d1 a b).1 - a) else (choosePivot lt d1 a b).1) = pv
  e5 : (if (choosePivot lt d1 a b).2 = .decreasing then Hint.increasing else (choosePivot lt d1 a b).2) = hint
theorem Round.done (h : Round lt d a b lim wb d1 lim1 d2 pv hint) (h1 : wb = true ∧ wp = true ∧ hint = .increasing) (h2 : scanSorted lt d2 b (a + 1) = b) : pdq lt d a b lim wb wp = d2 := by
  rw [pdq, if_neg h.h12, if_neg h.hl]
  simp only [h.e1, h.e2, h.e3, h.e4, h.e5]
  have hp : (if (wb && wp && decide (hint = Hint.increasing)) = true then partialInsertionSort lt d2 a b else (d2, false)) = (d2, true) := by
    rw [if_pos (by simp [h1]), partI h.h50, decide_eq_true h2]
  rw [hp]
  rfl
theorem Round.rest (h : Round lt d a b lim wb d1 lim1 d2 pv hint) (h1 : ¬ ((wb = true ∧ wp = true ∧ hint = .increasing) ∧ scanSorted lt d2 b (a + 1) = b)) : pdq lt d a b lim wb wp =
    if a > 0 && !lt d2[a - 1]! d2[pv]! then
      (if _h : a < (partitionEqual lt d2 a b pv).1 ∧ (partitionEqual lt d2 a b pv).1 ≤ b then pdq lt (partitionEqual lt d2 a b pv).2 (partitionEqual lt d2 a b pv).1 b lim1 wb wp else (partitionEqual lt d2 a b pv).2)
    else
      (if _h : a ≤ (partition lt d2 a b pv).1 ∧ (partition lt d2 a b pv).1 < b then
        if (partition lt d2 a b pv).1 - a < b - (partition lt d2 a b pv).1 then
          pdq lt (pdq lt (partition lt d2 a b pv).2.2 a (partition lt d2 a b pv).1 lim1 true true) ((partition lt d2 a b pv).1 + 1) b lim1 (decide ((partition lt d2 a b pv).1 - a ≥ (b - a) / 8)) (partition lt d2 a b pv).2.1
        else
          pdq lt (pdq lt (partition lt d2 a b pv).2.2 ((partition lt d2 a b pv).1 + 1) b lim1 true true) a (partition lt d2 a b pv).1 lim1 (decide (b - (partition lt d2 a b pv).1 ≥ (b - a) / 8)) (partition lt d2 a b pv).2.1
      else (partition lt d2 a b pv).2.2) := by
  rw [pdq, if_neg h.h12, if_neg h.hl]
  simp only [h.e1, h.e2, h.e3, h.e4, h.e5]
  have hp : (if (wb && wp && decide (hint = Hint.increasing)) = true then partialInsertionSort lt d2 a b else (d2, false)).1 = d2 ∧ (if (wb && wp && decide (hint = Hint.increasing)) = true then partialInsertionSort lt d2 a b else (d2, false)).2 = false := by
    split
    · rename_i hc
      rw [partI h.h50]
      simp only [Bool.and_eq_true, decide_eq_true_eq] at hc
      exact ⟨rfl, decide_eq_false fun e => h1 ⟨⟨hc.1.1, hc.1.2, hc.2⟩, e⟩⟩
    exact ⟨rfl, rfl⟩
  rw [hp.1, hp.2]
  rfl
end
end Go.Proofs.Ytmdohphcolffmaa
namespace Go.Proofs.Ytmdohphcolffmaa
open Go.RowKit
set_option linter.unusedSimpArgs false
set_option linter.unusedVariables false
set_option maxRecDepth 100000
section
open Go.Sort
variable {lt : Piece → Piece → Bool}
theorem size_insInner (a : Nat) : ∀ (j : Nat) (d : Array Piece), (insInner lt a j d).size = d.size
  | 0, d => by unfold insInner; rfl
  | j + 1, d => by
    unfold insInner
    split
    · rw [size_insInner a j, size_swp]
    rfl
theorem size_insOuter (a b : Nat) : ∀ (n i : Nat) (d : Array Piece), b - i = n → (insOuter lt a b i d).size = d.size
  | 0, i, d, h => by unfold insOuter; rw [if_neg (by omega)]
  | n + 1, i, d, h => by unfold insOuter; rw [if_pos (by omega), size_insOuter a b n (i + 1) _ (by omega), size_insInner]
theorem size_ins (d : Array Piece) (a b : Nat) : (insertionSort lt d a b).size = d.size := size_insOuter a b _ _ d rfl
theorem size_hb (hi f : Nat) : ∀ (k : Nat) (d : Array Piece), (heapBuild lt hi f k d).size = d.size
  | 0, d => rfl
  | k + 1, d => by rw [heapBuild, size_hb hi f k, size_sift _ _ _ rfl]
theorem size_hp (f : Nat) : ∀ (k : Nat) (d : Array Piece), (heapPop lt f k d).size = d.size
  | 0, d => rfl
  | k + 1, d => by rw [heapPop, size_hp f k, size_sift _ _ _ rfl, size_swp]
theorem size_heap (d : Array Piece) (a b : Nat) : (heapSort lt d a b).size = d.size := by unfold heapSort; rw [size_hp, size_hb]
theorem Round.size {d d1 d2 : Array Piece} {a b lim lim1 pv : Nat} {wb : Bool} {hint : Hint} (h : Round lt d a b lim wb d1 lim1 d2 pv hint) (hb : b ≤ d.size) : d2.size = d.size := by
  have h12 := h.h12
  have s1 : d1.size = d.size := by
    rw [← h.e1]
    split
    · exact (breakPatterns_holds d a b (by omega) hb).1
    rfl
  rw [← h.e3, ← s1]
  split
  · exact (reverseRange_holds d1 a b (by omega) (by omega)).1
  rfl
theorem pdq_size : ∀ (n : Nat) (d : Array Piece) (a b lim : Nat) (wb wp : Bool), b - a = n → b ≤ d.size → b - a < 50 → (pdq lt d a b lim wb wp).size = d.size := by
  intro n
  induction n using Nat.strongRecOn with
  | _ n ih =>
    intro d a b lim wb wp hn hb h50
    by_cases h12 : b - a ≤ 12
    · rw [pdq_ins h12, size_ins]
    by_cases hl : lim = 0
    · rw [pdq_heap h12 hl, size_heap]
    have R : Round lt d a b lim wb _ _ _ _ _ := ⟨h12, hl, h50, rfl, rfl, rfl, rfl, rfl⟩
    have hs := R.size hb
    revert R hs
    generalize (if !wb then breakPatterns d a b else d) = d1
    generalize (if !wb then lim - 1 else lim) = lim1
    generalize (if (choosePivot lt d1 a b).2 = .decreasing then reverseRange d1 a b else d1) = d2
    generalize (if (choosePivot lt d1 a b).2 = .decreasing then (b - 1) - ((choosePivot lt d1 a b).1 - a) else (choosePivot lt d1 a b).1) = pv
    generalize (if (choosePivot lt d1 a b).2 = .decreasing then Hint.increasing else (choosePivot lt d1 a b).2) = hint
    intro R hs
    by_cases hdone : (wb = true ∧ wp = true ∧ hint = .increasing) ∧ scanSorted lt d2 b (a + 1) = b
    · rw [R.done hdone.1 hdone.2, hs]
    rw [R.rest hdone]
    have he := eq_facts (lt := lt) (d := d2) (a := a) (b := b) (pv := pv) (by omega)
    have hp := p_facts (lt := lt) (d := d2) (a := a) (b := b) (pv := pv) (by omega)
    split
    · rw [dif_pos ⟨he.1, he.2.1⟩, ih _ (by omega) _ _ _ _ _ _ rfl (by omega) (by omega)]
      omega
    rw [dif_pos ⟨hp.1, hp.2.1⟩]
    have q1 := ih _ (by omega) (partition lt d2 a b pv).2.2 a (partition lt d2 a b pv).1 lim1 true true rfl (by omega) (by omega)
    have q2 := ih _ (by omega) (partition lt d2 a b pv).2.2 ((partition lt d2 a b pv).1 + 1) b lim1 true true rfl (by omega) (by omega)
    split
    · rw [ih _ (by omega) _ _ _ _ _ _ rfl (by omega) (by omega)]; omega
    rw [ih _ (by omega) _ _ _ _ _ _ rfl (by omega) (by omega)]; omega
end
end Go.Proofs.Ytmdohphcolffmaa
namespace Go.Proofs.Ytmdohphcolffmaa
open Go.RowKit
set_option linter.unusedSimpArgs false
set_option linter.unusedVariables false
set_option maxRecDepth 100000
theorem hint_2 {h : Go.Sort.Hint} : hintI h = 2 ↔ h = .decreasing := by cases h <;> decide
theorem hint_1 {h : Go.Sort.Hint} : hintI h = 1 ↔ h = .increasing := by cases h <;> decide
theorem en74 : Enters Try.prog 74 := enters_of Try.func74 (by kernel_rfl) rfl
theorem en75 : Enters Try.prog 75 := enters_of Try.func75 (by kernel_rfl) rfl
theorem en76 : Enters Try.prog 76 := enters_of Try.func76 (by kernel_rfl) rfl
theorem en77 : Enters Try.prog 77 := enters_of Try.func77 (by kernel_rfl) rfl
theorem en78 : Enters Try.prog 78 := enters_of Try.func78 (by kernel_rfl) rfl
theorem en79 : Enters Try.prog 79 := enters_of Try.func79 (by kernel_rfl) rfl
theorem en80 : Enters Try.prog 80 := enters_of Try.func80 (by kernel_rfl) rfl
theorem en81 : Enters Try.prog 81 := enters_of Try.func81 (by kernel_rfl) rfl
theorem en53 : Enters Try.prog 53 := enters_of Try.func53 (by kernel_rfl) rfl
theorem sol2 {P : Program} {x y : Value} : ∀ z ∈ [AV.v x, AV.v y], SolidA P z := fun z h => by
  simp only [List.mem_cons, List.not_mem_nil, or_false] at h
  rcases h with rfl | rfl <;> exact Solid.v _
theorem vbool {a b : Prop} [Decidable a] [Decidable b] (h : a ↔ b) : AV.v (.bool (decide a)) = AV.v (.bool (decide b)) := by rw [decide_eq_decide.2 h]
set_option maxHeartbeats 8000000 in
theorem C53 : ∀ (n : Nat) {u : Value} {d : Array Piece} {a b lim : Nat}, b - a = n → a ≤ b → b ≤ d.size → d.size ≤ 49 → 0 < d.size → lim ≤ 100 → Fn Try.prog 53 [srt u d] [.agg (dataW u), .v (.int .i64 a), .v (.int .i64 b), .v (.int .i64 lim)] [] [srt u (Go.Sort.pdq befB d a b lim true true)] := by
  intro n
  induction n using Nat.strongRecOn with
  | _ n ih =>
  intro u d a b lim hn hab hb hl h0 hlim
  refine Spec.body Try.func53 rfl Try.ntmps53 (by simp) rfl ?_; intro S0 own0 v0 w0
  (refine AW.seq_k ?_; intro K hK)
  refine AW.region ?_
  refine awJ (op_box rfl rfl rfl sz104 rfl) ?_; (simp only [nA, Nat.reduceBEq, Nat.reduceEqDiff, ↓reduceIte])
  refine AWL.nil ?_
  (refine hK _ ?_; clear hK K; (try simp only [nA, Nat.reduceBEq, Nat.reduceEqDiff, ↓reduceIte, Nat.reduceAdd, Nat.reduceSub]))
  (refine AW.seq_k ?_; intro K hK)
  refine AW.region ?_
  refine awP (op_assign rfl rfl) ?_; (try simp only [nA, Nat.reduceBEq, Nat.reduceEqDiff, ↓reduceIte, Nat.reduceAdd, Nat.reduceSub])
  refine AWL.nil ?_
  (refine hK _ ?_; clear hK K; (skip))
  (refine AW.seq_k ?_; intro K hK)
  refine AW.region ?_
  refine awP (op_assign rfl rfl) ?_; (try simp only [nA, Nat.reduceBEq, Nat.reduceEqDiff, ↓reduceIte, Nat.reduceAdd, Nat.reduceSub])
  refine AWL.nil ?_
  (refine hK _ ?_; clear hK K; (skip))
  refine AW.block ?_
  refine AW.loopI (fun (q : Nat × Nat × Nat × Bool × Bool × Array Piece) => [(1, .v (.int .i64 (q.1 : Nat))), (2, .v (.int .i64 (q.2.1 : Nat))), (3, .v (.int .i64 (q.2.2.1 : Nat))), (4, .ptr 1 1 0 0), (8, .v (.bool q.2.2.2.1)), (9, .v (.bool q.2.2.2.2.1))]) (fun q => ⟨[(0, srt u q.2.2.2.2.2), (1, .own 104 [dataW u])], 2⟩) (fun q => q.1 ≤ q.2.1 ∧ q.2.1 ≤ d.size ∧ q.2.1 - q.1 ≤ b - a ∧ q.2.2.1 ≤ 100 ∧ q.2.2.2.2.2.size = d.size ∧ Go.Sort.pdq befB q.2.2.2.2.2 q.1 q.2.1 q.2.2.1 q.2.2.2.1 q.2.2.2.2.1 = Go.Sort.pdq befB d a b lim true true) (fun q => q.2.1 - q.1) (a, b, lim, true, true, d) ⟨hab, hb, Nat.le_refl _, hlim, rfl, rfl⟩ ⟨rfl, rfl, rfl, rfl, rfl, rfl, trivial⟩ rfl ?_; rintro ⟨x, y, l, wb, wp, dk⟩ ρ ⟨hxy, hy, hxa, hl1, hs, hP⟩; dsimp only at hxy hy hxa hl1 hs hP ⊢; simp only [updL]
  refine AW.block ?_
  (refine AW.seq_k ?_; intro K hK)
  refine AW.region ?_
  refine awP (op_move rfl rfl) ?_; (simp only [nA, ↓reduceIte])
  refine awP (op_move rfl rfl) ?_; (simp only [nA, ↓reduceIte])
  (refine awP (op_subi rfl rfl rfl (by omega)) ?_); (try simp only [nA, Nat.reduceBEq, Nat.reduceEqDiff, ↓reduceIte, Nat.reduceAdd, Nat.reduceSub])
  refine awP (op_assign rfl rfl) ?_; (simp only [nA])
  refine AWL.nil ?_
  (refine hK _ ?_; clear hK K; (skip))
  (refine AW.seq_k ?_; intro K hK)
  (refine AW.seq_k ?_; intro K hK)
  refine AW.region ?_
  refine awP (op_move rfl rfl) ?_; (simp only [nA])
  refine awP (op_leq rfl rfl rfl) ?_; (try simp only [nA, Nat.reduceBEq, Nat.reduceEqDiff, ↓reduceIte, Nat.reduceAdd, Nat.reduceSub])
  refine AWL.nil ?_
  (refine hK _ ?_; clear hK K; (skip))
  refine AW.cond rfl rfl rfl (fun hc => ?_) (fun hc => ?_)
  ·
   (try simp only [hcS] at hc); have hc1 := hc; have h12 : y - x ≤ 12 := by omega
   (refine AW.seq_k ?_; intro K hK)
   refine AW.region ?_
   (refine awR (op_load_ptr rfl rfl rfl rfl ag104 sz104 (bl rfl) rfl) ?_); (try simp only [nA, Nat.reduceBEq, Nat.reduceEqDiff, ↓reduceIte, Nat.reduceAdd, Nat.reduceSub])
   refine awP (op_move rfl rfl) ?_; (simp only [nA, ↓reduceIte])
   refine awP (op_move rfl rfl) ?_; (simp only [nA, ↓reduceIte])
   refine awJ (op_callN (r := 0) rfl en74 (C74 (u := u) (d := dk) (a := x) (b := y) hxy (by omega) (by omega)) (by exact rfl) (RL.cons (.base (.same (by exact rfl))) (RL.cons (.base (.same (by exact rfl))) (RL.cons (.base (.same (by exact rfl))) RL.nil))) (by exact ⟨_, _, _, _, rfl, rfl⟩) (by exact rfl) (by exact rfl) (by exact rfl)) ?_; (try simp only [nA, Nat.reduceBEq, Nat.reduceEqDiff, ↓reduceIte, Nat.reduceAdd, Nat.reduceSub])
   refine AWL.nil ?_
   (refine hK _ ?_; clear hK K; (skip))
   skip
   refine AW.ret ?_; (try simp only [thenE, inBlk, Nat.reduceEqDiff, ↓reduceIte]); rw [← hP, pdq_ins h12]; exact RQ.of (.inl rfl) rfl .nil (by simp) rfl (one_out rfl)
  (try simp only [hcS] at hc); have hc1 := hc; have h12 : ¬ y - x ≤ 12 := by omega
  refine AW.skip ?_
  (refine hK _ ?_; clear hK K; (skip))
  (refine AW.seq_k ?_; intro K hK)
  (refine AW.seq_k ?_; intro K hK)
  refine AW.region ?_
  refine awP (op_move rfl rfl) ?_; (simp only [nA, ↓reduceIte])
  (refine awP (op_eql rfl rfl rfl) ?_); (try simp only [nA, Nat.reduceBEq, Nat.reduceEqDiff, ↓reduceIte, Nat.reduceAdd, Nat.reduceSub])
  refine AWL.nil ?_
  (refine hK _ ?_; clear hK K; (skip))
  refine AW.cond rfl rfl rfl (fun hc => ?_) (fun hc => ?_)
  ·
   (try simp only [hcS] at hc); have hc2 := hc
   (refine AW.seq_k ?_; intro K hK)
   refine AW.region ?_
   (refine awR (op_load_ptr rfl rfl rfl rfl ag104 sz104 (bl rfl) rfl) ?_); (try simp only [nA, Nat.reduceBEq, Nat.reduceEqDiff, ↓reduceIte, Nat.reduceAdd, Nat.reduceSub])
   refine awP (op_move rfl rfl) ?_; (simp only [nA, ↓reduceIte])
   refine awP (op_move rfl rfl) ?_; (simp only [nA, ↓reduceIte])
   refine awJ (op_callN (r := 0) rfl en75 (C75 (u := u) (d := dk) (a := x) (b := y) (by omega) (by omega) (by omega)) (by exact rfl) (RL.cons (.base (.same (by exact rfl))) (RL.cons (.base (.same (by exact rfl))) (RL.cons (.base (.same (by exact rfl))) RL.nil))) (by exact ⟨_, _, _, _, rfl, rfl⟩) (by exact rfl) (by exact rfl) (by exact rfl)) ?_; (try simp only [nA, Nat.reduceBEq, Nat.reduceEqDiff, ↓reduceIte, Nat.reduceAdd, Nat.reduceSub])
   refine AWL.nil ?_
   (refine hK _ ?_; clear hK K; (skip))
   skip
   refine AW.ret ?_; (try simp only [thenE, inBlk, Nat.reduceEqDiff, ↓reduceIte]); rw [← hP, pdq_heap h12 (by omega)]; exact RQ.of (.inl rfl) rfl .nil (by simp) rfl (one_out rfl)
  (try simp only [hcS] at hc); have hc2 := hc
  refine AW.skip ?_
  (refine hK _ ?_; clear hK K; (skip))
  refine AW.join (ι := Unit) (fun _ => [(1, .v (.int .i64 (x : Nat))), (2, .v (.int .i64 (y : Nat))), (4, .ptr 1 1 0 0), (8, .v (.bool wb)), (9, .v (.bool wp)), (10, .v (.int .i64 ((y : Int) - (x : Int)))), (3, .v (.int .i64 ((if !wb then l - 1 else l : Nat) : Int)))]) (fun _ => ⟨[(0, srt u (if !wb then Go.Sort.breakPatterns dk x y else dk)), (1, .own 104 [dataW u])], 2⟩) (fun _ => True) ?_ ?_
  ·
   (refine AW.seq_k ?_; intro K hK)
   refine AW.region ?_
   refine awP (op_move rfl rfl) ?_; (simp only [nA, ↓reduceIte])
   refine awP (op_not rfl rfl rfl) ?_; (try simp only [nA, Nat.reduceBEq, Nat.reduceEqDiff, ↓reduceIte, Nat.reduceAdd, Nat.reduceSub])
   refine AWL.nil ?_
   (refine hK _ ?_; clear hK K; (try simp only [nA, Nat.reduceBEq, Nat.reduceEqDiff, ↓reduceIte, Nat.reduceAdd, Nat.reduceSub]))
   refine AW.cond rfl rfl rfl (fun hc => ?_) (fun hc => ?_)
   ·
    (try simp only [hcS] at hc); have hc3 := hc
    (refine AW.seq_k ?_; intro K hK)
    refine AW.region ?_
    (refine awR (op_load_ptr rfl rfl rfl rfl ag104 sz104 (bl rfl) rfl) ?_); (try simp only [nA, Nat.reduceBEq, Nat.reduceEqDiff, ↓reduceIte, Nat.reduceAdd, Nat.reduceSub])
    refine awP (op_move rfl rfl) ?_; (simp only [nA, ↓reduceIte])
    refine awP (op_move rfl rfl) ?_; (simp only [nA, ↓reduceIte])
    refine awJ (op_callN (r := 0) rfl en76 (C76 (u := u) (d := dk) (a := x) (b := y) (by omega) hxy (by omega) (by omega)) (by exact rfl) (RL.cons (.base (.same (by exact rfl))) (RL.cons (.base (.same (by exact rfl))) (RL.cons (.base (.same (by exact rfl))) RL.nil))) (by exact ⟨_, _, _, _, rfl, rfl⟩) (by exact rfl) (by exact rfl) (by exact rfl)) ?_; (try simp only [nA, Nat.reduceBEq, Nat.reduceEqDiff, ↓reduceIte, Nat.reduceAdd, Nat.reduceSub])
    refine AWL.nil ?_
    (refine hK _ ?_; clear hK K; (skip))
    refine AW.region ?_
    refine awP (op_move rfl rfl) ?_; (simp only [nA, ↓reduceIte])
    (refine awP (op_subi rfl rfl rfl (by omega)) ?_); (try simp only [nA, Nat.reduceBEq, Nat.reduceEqDiff, ↓reduceIte, Nat.reduceAdd, Nat.reduceSub])
    refine awP (op_assign rfl rfl) ?_; (simp only [nA])
    refine AWL.nil ?_
    cases wb <;> first | (cases hc3; done) | exact ⟨(), trivial, ⟨rfl, rfl, rfl, rfl, rfl, rfl, vint (by simp; omega), trivial⟩, rfl, rfl⟩
   (try simp only [hcS] at hc); have hc3 := hc
   refine AW.skip ?_
   cases wb <;> first | (cases hc3; done) | exact ⟨(), trivial, ⟨rfl, rfl, rfl, rfl, rfl, rfl, rfl, trivial⟩, rfl, rfl⟩
  intro _ ρ _; simp only [updL]; generalize he1 : (if !wb then Go.Sort.breakPatterns dk x y else dk) = d1; generalize he2 : (if !wb then l - 1 else l) = l1; have hs1 : d1.size = d.size := (by rw [← he1, ← hs]; split; exact (Go.Sort.breakPatterns_holds dk x y hxy (by omega)).1; rfl); have hl2 : l1 ≤ 100 := (by rw [← he2]; split <;> omega); have hcp := Go.Sort.choosePivot_holds befB d1 x y (by omega)
  (refine AW.seq_k ?_; intro K hK)
  refine AW.region ?_
  (refine awR (op_load_ptr rfl rfl rfl rfl ag104 sz104 (bl rfl) rfl) ?_); (try simp only [nA, Nat.reduceBEq, Nat.reduceEqDiff, ↓reduceIte, Nat.reduceAdd, Nat.reduceSub])
  refine awP (op_move rfl rfl) ?_; (simp only [nA, ↓reduceIte])
  refine awP (op_move rfl rfl) ?_; (simp only [nA, ↓reduceIte])
  refine awJ (op_callRd (r := 0) rfl en77 (C77 (u := u) (d := d1) (a := x) (b := y) (by omega) (by omega) (by omega) (by omega)) (by exact rfl) (rowsP_flat d1) (RL.cons (.up (by exact rfl)) (RL.cons (.base (.same (by exact rfl))) (RL.cons (.base (.same (by exact rfl))) RL.nil))) (by exact rfl) sol2 (by exact rfl) (by exact rfl)) ?_; (try simp only [nA, Nat.reduceBEq, Nat.reduceEqDiff, ↓reduceIte, Nat.reduceAdd, Nat.reduceSub])
  refine awP (op_move rfl rfl) ?_; (simp only [nA])
  refine awP (op_extract rfl rfl rfl) ?_; (try simp only [nA, Nat.reduceBEq, Nat.reduceEqDiff, ↓reduceIte, Nat.reduceAdd, Nat.reduceSub])
  refine awP (op_extract rfl rfl rfl) ?_; (try simp only [nA, Nat.reduceBEq, Nat.reduceEqDiff, ↓reduceIte, Nat.reduceAdd, Nat.reduceSub])
  refine awP (op_assign rfl rfl) ?_; (simp only [nA, ↓reduceIte])
  refine awP (op_assign rfl rfl) ?_; (simp only [nA, ↓reduceIte])
  refine AWL.nil ?_
  (refine hK _ ?_; clear hK K; (skip))
  refine AW.join (ι := Unit) (fun _ => [(1, .v (.int .i64 (x : Nat))), (2, .v (.int .i64 (y : Nat))), (4, .ptr 1 1 0 0), (8, .v (.bool wb)), (9, .v (.bool wp)), (10, .v (.int .i64 ((y : Int) - (x : Int)))), (3, .v (.int .i64 (l1 : Nat))), (11, .v (.int .i64 ((if (Go.Sort.choosePivot befB d1 x y).2 = .decreasing then (y - 1) - ((Go.Sort.choosePivot befB d1 x y).1 - x) else (Go.Sort.choosePivot befB d1 x y).1 : Nat) : Int))), (12, .v (.int .i64 (hintI (if (Go.Sort.choosePivot befB d1 x y).2 = .decreasing then Go.Sort.Hint.increasing else (Go.Sort.choosePivot befB d1 x y).2))))]) (fun _ => ⟨[(0, srt u (if (Go.Sort.choosePivot befB d1 x y).2 = .decreasing then Go.Sort.reverseRange d1 x y else d1)), (1, .own 104 [dataW u])], 2⟩) (fun _ => True) ?_ ?_
  ·
   (refine AW.seq_k ?_; intro K hK)
   refine AW.region ?_
   refine awP (op_move rfl rfl) ?_; (simp only [nA])
   (refine awP (op_eql rfl rfl rfl) ?_); (try simp only [nA, Nat.reduceBEq, Nat.reduceEqDiff, ↓reduceIte, Nat.reduceAdd, Nat.reduceSub])
   refine AWL.nil ?_
   (refine hK _ ?_; clear hK K; (try simp only [nA, Nat.reduceBEq, Nat.reduceEqDiff, ↓reduceIte, Nat.reduceAdd, Nat.reduceSub]))
   refine AW.cond rfl rfl rfl (fun hc => ?_) (fun hc => ?_)
   ·
    (try simp only [hcS] at hc); have hc4 := hc
    (refine AW.seq_k ?_; intro K hK)
    refine AW.region ?_
    (refine awR (op_load_ptr rfl rfl rfl rfl ag104 sz104 (bl rfl) rfl) ?_); (try simp only [nA, Nat.reduceBEq, Nat.reduceEqDiff, ↓reduceIte, Nat.reduceAdd, Nat.reduceSub])
    refine awP (op_move rfl rfl) ?_; (simp only [nA, ↓reduceIte])
    refine awP (op_move rfl rfl) ?_; (simp only [nA, ↓reduceIte])
    refine awJ (op_callN (r := 0) rfl en78 (C78 (u := u) (d := d1) (a := x) (b := y) (by omega) hxy (by omega) (by omega)) (by exact rfl) (RL.cons (.base (.same (by exact rfl))) (RL.cons (.base (.same (by exact rfl))) (RL.cons (.base (.same (by exact rfl))) RL.nil))) (by exact ⟨_, _, _, _, rfl, rfl⟩) (by exact rfl) (by exact rfl) (by exact rfl)) ?_; (try simp only [nA, Nat.reduceBEq, Nat.reduceEqDiff, ↓reduceIte, Nat.reduceAdd, Nat.reduceSub])
    refine AWL.nil ?_
    (refine hK _ ?_; clear hK K; (skip))
    (refine AW.seq_k ?_; intro K hK)
    refine AW.region ?_
    refine awP (op_move rfl rfl) ?_; (simp only [nA, ↓reduceIte])
    (refine awP (op_subi rfl rfl rfl (by omega)) ?_); (try simp only [nA, Nat.reduceBEq, Nat.reduceEqDiff, ↓reduceIte, Nat.reduceAdd, Nat.reduceSub])
    refine awP (op_move rfl rfl) ?_; (simp only [nA, ↓reduceIte])
    refine awP (op_move rfl rfl) ?_; (simp only [nA, ↓reduceIte])
    (refine awP (op_subi rfl rfl rfl (by omega)) ?_); (try simp only [nA, Nat.reduceBEq, Nat.reduceEqDiff, ↓reduceIte, Nat.reduceAdd, Nat.reduceSub])
    (refine awP (op_subi rfl rfl rfl (by omega)) ?_); (try simp only [nA, Nat.reduceBEq, Nat.reduceEqDiff, ↓reduceIte, Nat.reduceAdd, Nat.reduceSub])
    refine awP (op_assign rfl rfl) ?_; (simp only [nA])
    refine AWL.nil ?_
    (refine hK _ ?_; clear hK K; (skip))
    refine AW.region ?_
    refine awP (op_assign rfl rfl) ?_; (try simp only [nA, Nat.reduceBEq, Nat.reduceEqDiff, ↓reduceIte, Nat.reduceAdd, Nat.reduceSub])
    refine AWL.nil ?_
    rw [hint_2] at hc; simp only [if_pos hc]; exact ⟨(), trivial, ⟨rfl, rfl, rfl, rfl, rfl, rfl, rfl, vint (by omega), rfl, trivial⟩, rfl, rfl⟩
   (try simp only [hcS] at hc); have hc4 := hc
   refine AW.skip ?_
   rw [hint_2] at hc; simp only [if_neg hc]; exact ⟨(), trivial, ⟨rfl, rfl, rfl, rfl, rfl, rfl, rfl, rfl, rfl, trivial⟩, rfl, rfl⟩
  intro _ ρ _; simp only [updL]; have R : Round befB dk x y l wb _ _ _ _ _ := ⟨h12, (by omega), (by omega), he1, he2, rfl, rfl, rfl⟩; have hs2 := R.size (by omega); have hpv := Go.Sort.pivot_range hcp.1 hcp.2 ((Go.Sort.choosePivot befB d1 x y).2 = .decreasing); simp only [dite_eq_ite] at hpv; revert R hs2 hpv; generalize (if (Go.Sort.choosePivot befB d1 x y).2 = .decreasing then Go.Sort.reverseRange d1 x y else d1) = d2; generalize (if (Go.Sort.choosePivot befB d1 x y).2 = .decreasing then (y - 1) - ((Go.Sort.choosePivot befB d1 x y).1 - x) else (Go.Sort.choosePivot befB d1 x y).1) = pv; generalize (if (Go.Sort.choosePivot befB d1 x y).2 = .decreasing then Go.Sort.Hint.increasing else (Go.Sort.choosePivot befB d1 x y).2) = hint; intro R hs2 hpv
  refine AW.join (ι := Unit) (fun _ => [(1, .v (.int .i64 (x : Nat))), (2, .v (.int .i64 (y : Nat))), (4, .ptr 1 1 0 0), (8, .v (.bool wb)), (9, .v (.bool wp)), (10, .v (.int .i64 ((y : Int) - (x : Int)))), (3, .v (.int .i64 (l1 : Nat))), (11, .v (.int .i64 (pv : Nat)))]) (fun _ => ⟨[(0, srt u d2), (1, .own 104 [dataW u])], 2⟩) (fun _ => ¬ ((wb = true ∧ wp = true ∧ hint = .increasing) ∧ Go.Sort.scanSorted befB d2 y (x + 1) = y)) ?_ ?_
  ·
   (refine AW.seq_k ?_; intro K hK)
   refine AW.region (AWL.quiet ?_)
   refine aqP (op_move rfl rfl) ?_; (simp only [nA, ↓reduceIte])
   refine aqP (op_move rfl rfl) ?_; (simp only [nA])
   refine' aqAnd' [_] [63] rfl rfl rfl rfl rfl rfl rfl rfl rfl rfl rfl rfl (fun hb => ?_) ?_; rotate_left
   ·
    (try simp only [hcS] at hb)
    refine aqP (op_move rfl rfl) ?_; (simp only [nA, ↓reduceIte])
    (refine aqSeg rfl rfl rfl ?_; repeat (first | exact fun _ _ => rfl | refine upd_out rfl ?_))
   refine aqP (op_move rfl rfl) ?_; (simp only [nA])
   refine' aqAnd' [_, _] [66,67] rfl rfl rfl rfl rfl rfl rfl rfl rfl rfl rfl rfl (fun hb => ?_) ?_; rotate_left
   ·
    (try simp only [hcS] at hb)
    refine aqP (op_move rfl rfl) ?_; (simp only [nA, Nat.reduceEqDiff, ↓reduceIte])
    (refine aqP (op_eql rfl rfl rfl) ?_); (try simp only [nA, Nat.reduceBEq, Nat.reduceEqDiff, ↓reduceIte, Nat.reduceAdd, Nat.reduceSub])
    (refine aqSeg rfl rfl rfl ?_; repeat (first | exact fun _ _ => rfl | refine upd_out rfl ?_))
   refine AQ.nil ?_
   (refine hK _ ?_; clear hK K; (try simp only [nA, Nat.reduceBEq, Nat.reduceEqDiff, ↓reduceIte, Nat.reduceAdd, Nat.reduceSub]))
   refine AW.cond rfl rfl rfl (fun hc => ?_) (fun hc => ?_)
   ·
    (try simp only [hcS] at hc); have hc5 := hc; simp only [Bool.and_eq_true, decide_eq_true_eq, hint_1] at hc hc5
    (refine AW.seq_k ?_; intro K hK)
    refine AW.region ?_
    (refine awR (op_load_ptr rfl rfl rfl rfl ag104 sz104 (bl rfl) rfl) ?_); (try simp only [nA, Nat.reduceBEq, Nat.reduceEqDiff, ↓reduceIte, Nat.reduceAdd, Nat.reduceSub])
    refine awP (op_move rfl rfl) ?_; (simp only [nA, Nat.reduceEqDiff, ↓reduceIte])
    refine awP (op_move rfl rfl) ?_; (simp only [nA, Nat.reduceEqDiff, ↓reduceIte])
    refine awJ (op_callN (r := 0) rfl en79 (C79 (u := u) (d := d2) (a := x) (b := y) (by omega) (by omega) (by omega) (by omega)) (by exact rfl) (RL.cons (.base (.same (by exact rfl))) (RL.cons (.base (.same (by exact rfl))) (RL.cons (.base (.same (by exact rfl))) RL.nil))) (by exact ⟨_, _, _, _, rfl, rfl⟩) (by exact rfl) (by exact rfl) (by exact rfl)) ?_; (try simp only [nA, Nat.reduceBEq, Nat.reduceEqDiff, ↓reduceIte, Nat.reduceAdd, Nat.reduceSub])
    refine AWL.nil ?_
    (refine hK _ ?_; clear hK K; (skip))
    refine AW.cond rfl rfl rfl (fun hc => ?_) (fun hc => ?_)
    ·
     (try simp only [hcS] at hc); have hc6 := hc
     skip
     refine AW.ret ?_; (try simp only [thenE, inBlk, Nat.reduceEqDiff, ↓reduceIte]); rw [← hP]; simp only [partI (lt := befB) (d := d2) (a := x) (b := y) (show y - x < 50 by omega)] at hc ⊢; rw [R.done ⟨hc5.1.1, hc5.1.2, hc5.2⟩ (by simpa using hc)]; exact RQ.of (.inl rfl) rfl .nil (by simp) rfl (one_out rfl)
    (try simp only [hcS] at hc); have hc6 := hc
    refine AW.skip ?_
    simp only [partI (lt := befB) (d := d2) (a := x) (b := y) (show y - x < 50 by omega)] at hc ⊢; exact ⟨(), fun h => (by simp [h.2] at hc), ⟨rfl, rfl, rfl, rfl, rfl, rfl, rfl, rfl, trivial⟩, rfl, rfl⟩
   (try simp only [hcS] at hc); have hc5 := hc; simp only [Bool.and_eq_true, decide_eq_true_eq, hint_1] at hc hc5
   refine AW.skip ?_
   exact ⟨(), fun h => (by simp [h.1.1, h.1.2.1, h.1.2.2, hintI] at hc), ⟨rfl, rfl, rfl, rfl, rfl, rfl, rfl, rfl, trivial⟩, rfl, rfl⟩
  intro _ ρ hnd; simp only [updL]
  (refine AW.seq_k ?_; intro K hK)
  (refine AW.seq_k ?_; intro K hK)
  refine AW.region (AWL.quiet ?_)
  refine aqP (op_move rfl rfl) ?_; (simp only [nA])
  refine aqP (op_gtr rfl rfl rfl) ?_; (try simp only [nA, Nat.reduceBEq, Nat.reduceEqDiff, ↓reduceIte, Nat.reduceAdd, Nat.reduceSub])
  refine aqP (op_move rfl rfl) ?_; (simp only [nA])
  refine' aqAnd' [_, _, _, _, _, _, _] [76,77,78,79,80,81,82] rfl rfl rfl rfl rfl rfl rfl rfl rfl rfl rfl rfl (fun hb => ?_) ?_; rotate_left
  ·
   (try simp only [hcS] at hb)
   (refine aqP (op_fa_ptr rfl rfl rfl fl104_0 (by exact sz2) (by decide) rfl) ?_); (try simp only [nA, Nat.reduceBEq, Nat.reduceEqDiff, ↓reduceIte, Nat.reduceAdd, Nat.reduceSub])
   (refine aqR (op_load_ptr1 rfl rfl rfl rfl ag75 rfl rfl) ?_); (try simp only [nA, Nat.reduceBEq, Nat.reduceEqDiff, ↓reduceIte, Nat.reduceAdd, Nat.reduceSub])
   refine aqP (op_move rfl rfl) ?_; (simp only [nA, ↓reduceIte])
   (refine aqP (op_subi rfl rfl rfl (by omega)) ?_); (try simp only [nA, Nat.reduceBEq, Nat.reduceEqDiff, ↓reduceIte, Nat.reduceAdd, Nat.reduceSub])
   refine aqP (op_move rfl rfl) ?_; (simp only [nA, ↓reduceIte])
   refine aqQ (op_lt (r := 0) (d := d2) rfl rfl rfl rfl rfl (by omega) (by omega) (by omega)) ?_; (try simp only [nA, Nat.reduceBEq, Nat.reduceEqDiff, ↓reduceIte, Nat.reduceAdd, Nat.reduceSub])
   refine aqP (op_not rfl rfl rfl) ?_; (try simp only [nA, Nat.reduceBEq, Nat.reduceEqDiff, ↓reduceIte, Nat.reduceAdd, Nat.reduceSub])
   (refine aqSeg rfl rfl rfl ?_; repeat (first | exact fun _ _ => rfl | refine upd_out rfl ?_))
  refine AQ.nil ?_
  (refine hK _ ?_; clear hK K; (skip))
  refine AW.cond rfl rfl rfl (fun hc => ?_) (fun hc => ?_)
  ·
   (try simp only [hcS] at hc); have hc7 := hc; rw [Int.toNat_natCast, show ((x : Int) - 1).toNat = x - 1 by omega] at hc7; have hg : (decide (x > 0) && !befB d2[x - 1]! d2[pv]!) = true := (by rw [hc7.2, decide_eq_true (by omega)]; rfl); have he := eq_facts (lt := befB) (d := d2) (a := x) (b := y) (pv := pv) (by omega)
   (refine AW.seq_k ?_; intro K hK)
   refine AW.region ?_
   (refine awR (op_load_ptr rfl rfl rfl rfl ag104 sz104 (bl rfl) rfl) ?_); (try simp only [nA, Nat.reduceBEq, Nat.reduceEqDiff, ↓reduceIte, Nat.reduceAdd, Nat.reduceSub])
   refine awP (op_move rfl rfl) ?_; (simp only [nA, Nat.reduceEqDiff, ↓reduceIte])
   refine awP (op_move rfl rfl) ?_; (simp only [nA, Nat.reduceEqDiff, ↓reduceIte])
   refine awP (op_move rfl rfl) ?_; (simp only [nA, Nat.reduceEqDiff, ↓reduceIte])
   refine awJ (op_callN (r := 0) rfl en80 (C80 (u := u) (d := d2) (a := x) (b := y) (pv := pv) (by omega) hpv (by omega) (by omega)) (by exact rfl) (RL.cons (.base (.same (by exact rfl))) (RL.cons (.base (.same (by exact rfl))) (RL.cons (.base (.same (by exact rfl))) (RL.cons (.base (.same (by exact rfl))) RL.nil)))) (by exact ⟨_, _, _, _, rfl, rfl⟩) (by exact rfl) (by exact rfl) (by exact rfl)) ?_; (try simp only [nA, Nat.reduceBEq, Nat.reduceEqDiff, ↓reduceIte, Nat.reduceAdd, Nat.reduceSub])
   refine awP (op_assign rfl rfl) ?_; (simp only [nA])
   refine AWL.nil ?_
   (refine hK _ ?_; clear hK K; (skip))
   (refine AW.seq_k ?_; intro K hK)
   refine AW.region ?_
   refine awP (op_move rfl rfl) ?_; (simp only [nA])
   refine awP (op_assign rfl rfl) ?_; (simp only [nA])
   refine AWL.nil ?_
   (refine hK _ ?_; clear hK K; (skip))
   refine AW.exit ?_; (try simp only [thenE, inBlk, Nat.reduceEqDiff, ↓reduceIte])
   clear hK K
   exact ⟨((Go.Sort.partitionEqual befB d2 x y pv).1, y, l1, wb, wp, (Go.Sort.partitionEqual befB d2 x y pv).2), ⟨(by dsimp only; omega), (by dsimp only; omega), (by dsimp only; omega), hl2, (by dsimp only; omega), (by dsimp only; rw [← hP, R.rest hnd, if_pos hg, dif_pos ⟨he.1, he.2.1⟩])⟩, (by dsimp only; omega), ⟨rfl, rfl, rfl, rfl, rfl, rfl, trivial⟩, rfl, trivial⟩
  (try simp only [hcS] at hc); have hc7 := hc; rw [Int.toNat_natCast, show ((x : Int) - 1).toNat = x - 1 by omega] at hc7; have hg : ¬ (decide (x > 0) && !befB d2[x - 1]! d2[pv]!) = true := (by rcases hc7 with h | h; (rw [decide_eq_false (by omega)]; simp); (rw [h]; simp)); have hp := p_facts (lt := befB) (d := d2) (a := x) (b := y) (pv := pv) (by omega); have hrest := R.rest hnd; rw [if_neg hg, dif_pos ⟨hp.1, hp.2.1⟩] at hrest; have z1 := pdq_size (lt := befB) _ (Go.Sort.partition befB d2 x y pv).2.2 x (Go.Sort.partition befB d2 x y pv).1 l1 true true rfl (by omega) (by omega); have z2 := pdq_size (lt := befB) _ (Go.Sort.partition befB d2 x y pv).2.2 ((Go.Sort.partition befB d2 x y pv).1 + 1) y l1 true true rfl (by omega) (by omega)
  refine AW.skip ?_
  (refine hK _ ?_; clear hK K; (skip))
  (refine AW.seq_k ?_; intro K hK)
  refine AW.region ?_
  (refine awR (op_load_ptr rfl rfl rfl rfl ag104 sz104 (bl rfl) rfl) ?_); (try simp only [nA, Nat.reduceBEq, Nat.reduceEqDiff, ↓reduceIte, Nat.reduceAdd, Nat.reduceSub])
  refine awP (op_move rfl rfl) ?_; (simp only [nA, Nat.reduceEqDiff, ↓reduceIte])
  refine awP (op_move rfl rfl) ?_; (simp only [nA, Nat.reduceEqDiff, ↓reduceIte])
  refine awP (op_move rfl rfl) ?_; (simp only [nA, Nat.reduceEqDiff, ↓reduceIte])
  refine awJ (op_callN (r := 0) rfl en81 (C81 (u := u) (d := d2) (a := x) (b := y) (pv := pv) (by omega) hpv (by omega) (by omega)) (by exact rfl) (RL.cons (.base (.same (by exact rfl))) (RL.cons (.base (.same (by exact rfl))) (RL.cons (.base (.same (by exact rfl))) (RL.cons (.base (.same (by exact rfl))) RL.nil)))) (by exact ⟨_, _, _, _, rfl, rfl⟩) (by exact rfl) (by exact rfl) (by exact rfl)) ?_; (try simp only [nA, Nat.reduceBEq, Nat.reduceEqDiff, ↓reduceIte, Nat.reduceAdd, Nat.reduceSub])
  refine awP (op_move rfl rfl) ?_; (simp only [nA])
  refine awP (op_extract rfl rfl rfl) ?_; (try simp only [nA, Nat.reduceBEq, Nat.reduceEqDiff, ↓reduceIte, Nat.reduceAdd, Nat.reduceSub])
  refine awP (op_extract rfl rfl rfl) ?_; (try simp only [nA, Nat.reduceBEq, Nat.reduceEqDiff, ↓reduceIte, Nat.reduceAdd, Nat.reduceSub])
  refine awP (op_assign rfl rfl) ?_; (simp only [nA, ↓reduceIte])
  refine awP (op_assign rfl rfl) ?_; (simp only [nA, ↓reduceIte])
  refine AWL.nil ?_
  (refine hK _ ?_; clear hK K; (skip))
  (refine AW.seq_k ?_; intro K hK)
  refine AW.region ?_
  refine awP (op_move rfl rfl) ?_; (simp only [nA])
  refine awP (op_assign rfl rfl) ?_; (simp only [nA])
  refine AWL.nil ?_
  (refine hK _ ?_; clear hK K; (skip))
  (refine AW.seq_k ?_; intro K hK)
  refine AW.region ?_
  refine awP (op_move rfl rfl) ?_; (simp only [nA, ↓reduceIte])
  refine awP (op_move rfl rfl) ?_; (simp only [nA, Nat.reduceEqDiff, ↓reduceIte])
  (refine awP (op_subi rfl rfl rfl (by omega)) ?_); (try simp only [nA, Nat.reduceBEq, Nat.reduceEqDiff, ↓reduceIte, Nat.reduceAdd, Nat.reduceSub])
  refine awP (op_move rfl rfl) ?_; (simp only [nA, Nat.reduceEqDiff, ↓reduceIte])
  refine awP (op_move rfl rfl) ?_; (simp only [nA, ↓reduceIte])
  (refine awP (op_subi rfl rfl rfl (by omega)) ?_); (try simp only [nA, Nat.reduceBEq, Nat.reduceEqDiff, ↓reduceIte, Nat.reduceAdd, Nat.reduceSub])
  refine awP (op_assign rfl rfl) ?_; (simp only [nA, ↓reduceIte])
  refine awP (op_assign rfl rfl) ?_; (simp only [nA, ↓reduceIte])
  refine AWL.nil ?_
  (refine hK _ ?_; clear hK K; (skip))
  (refine AW.seq_k ?_; intro K hK)
  refine AW.region ?_
  refine awP (op_move rfl rfl) ?_; (simp only [nA, Nat.reduceEqDiff, ↓reduceIte])
  (refine awP (op_quoi rfl rfl rfl (by omega)) ?_); (try simp only [nA, Nat.reduceBEq, Nat.reduceEqDiff, ↓reduceIte, Nat.reduceAdd, Nat.reduceSub])
  refine awP (op_assign rfl rfl) ?_; (simp only [nA])
  refine AWL.nil ?_
  (refine hK _ ?_; clear hK K; (skip))
  (refine AW.seq_k ?_; intro K hK)
  refine AW.region ?_
  refine awP (op_move rfl rfl) ?_; (simp only [nA, ↓reduceIte])
  refine awP (op_move rfl rfl) ?_; (simp only [nA, ↓reduceIte])
  refine awP (op_lss rfl rfl rfl) ?_; (try simp only [nA, Nat.reduceBEq, Nat.reduceEqDiff, ↓reduceIte, Nat.reduceAdd, Nat.reduceSub])
  refine AWL.nil ?_
  (refine hK _ ?_; clear hK K; (skip))
  refine AW.cond rfl rfl rfl (fun hc => ?_) (fun hc => ?_)
  ·
   (try simp only [hcS] at hc); have hc8 := hc; (try simp only [decide_eq_true_eq] at hc8); rw [if_pos (by omega)] at hrest
   (refine AW.seq_k ?_; intro K hK)
   refine AW.region ?_
   refine awP (op_move rfl rfl) ?_; (simp only [nA, ↓reduceIte])
   refine awP (op_move rfl rfl) ?_; (simp only [nA, ↓reduceIte])
   refine awP (op_geq rfl rfl rfl) ?_; (try simp only [nA, Nat.reduceBEq, Nat.reduceEqDiff, ↓reduceIte, Nat.reduceAdd, Nat.reduceSub])
   refine awP (op_assign rfl rfl) ?_; (simp only [nA])
   refine AWL.nil ?_
   (refine hK _ ?_; clear hK K; (skip))
   (refine AW.seq_k ?_; intro K hK)
   refine AW.region ?_
   (refine awR (op_load_ptr rfl rfl rfl rfl ag104 sz104 (bl rfl) rfl) ?_); (try simp only [nA, Nat.reduceBEq, Nat.reduceEqDiff, ↓reduceIte, Nat.reduceAdd, Nat.reduceSub])
   refine awP (op_move rfl rfl) ?_; (simp only [nA, Nat.reduceEqDiff, ↓reduceIte])
   refine awP (op_move rfl rfl) ?_; (simp only [nA, ↓reduceIte])
   refine awP (op_move rfl rfl) ?_; (simp only [nA, Nat.reduceEqDiff, ↓reduceIte])
   refine awJ (op_callN (r := 0) rfl en53 (ih ((Go.Sort.partition befB d2 x y pv).1 - x) (by omega) (u := u) (d := (Go.Sort.partition befB d2 x y pv).2.2) (a := x) (b := (Go.Sort.partition befB d2 x y pv).1) (lim := l1) rfl (by omega) (by omega) (by omega) (by omega) (by omega)) (by exact rfl) (RL.cons (.base (.same (by exact rfl))) (RL.cons (.base (.same (by exact rfl))) (RL.cons (.base (.same (by exact rfl))) (RL.cons (.base (.same (by exact rfl))) RL.nil)))) (by exact ⟨_, _, _, _, rfl, rfl⟩) (by exact rfl) (by exact rfl) (by exact rfl)) ?_; (try simp only [nA, Nat.reduceBEq, Nat.reduceEqDiff, ↓reduceIte, Nat.reduceAdd, Nat.reduceSub])
   refine AWL.nil ?_
   (refine hK _ ?_; clear hK K; (skip))
   refine AW.region ?_
   refine awP (op_move rfl rfl) ?_; (simp only [nA, ↓reduceIte])
   (refine awP (op_addi rfl rfl rfl (by omega)) ?_); (try simp only [nA, Nat.reduceBEq, Nat.reduceEqDiff, ↓reduceIte, Nat.reduceAdd, Nat.reduceSub])
   refine awP (op_assign rfl rfl) ?_; (simp only [nA])
   refine AWL.nil ?_
   (try simp only [thenE, inBlk, Nat.reduceEqDiff, ↓reduceIte])
   exact ⟨((Go.Sort.partition befB d2 x y pv).1 + 1, y, l1, decide ((Go.Sort.partition befB d2 x y pv).1 - x ≥ (y - x) / 8), (Go.Sort.partition befB d2 x y pv).2.1, Go.Sort.pdq befB (Go.Sort.partition befB d2 x y pv).2.2 x (Go.Sort.partition befB d2 x y pv).1 l1 true true), ⟨(by dsimp only; omega), (by dsimp only; omega), (by dsimp only; omega), hl2, (by dsimp only; omega), (by dsimp only; rw [← hP, hrest])⟩, (by dsimp only; omega), ⟨vint (by simp), rfl, rfl, rfl, vbool (by omega), rfl, trivial⟩, rfl, trivial⟩
  (try simp only [hcS] at hc); have hc8 := hc; (try simp only [decide_eq_false_iff_not] at hc8); rw [if_neg (by omega)] at hrest
  (refine AW.seq_k ?_; intro K hK)
  refine AW.region ?_
  refine awP (op_move rfl rfl) ?_; (simp only [nA, ↓reduceIte])
  refine awP (op_move rfl rfl) ?_; (simp only [nA, ↓reduceIte])
  refine awP (op_geq rfl rfl rfl) ?_; (try simp only [nA, Nat.reduceBEq, Nat.reduceEqDiff, ↓reduceIte, Nat.reduceAdd, Nat.reduceSub])
  refine awP (op_assign rfl rfl) ?_; (simp only [nA])
  refine AWL.nil ?_
  (refine hK _ ?_; clear hK K; (skip))
  (refine AW.seq_k ?_; intro K hK)
  refine AW.region ?_
  (refine awR (op_load_ptr rfl rfl rfl rfl ag104 sz104 (bl rfl) rfl) ?_); (try simp only [nA, Nat.reduceBEq, Nat.reduceEqDiff, ↓reduceIte, Nat.reduceAdd, Nat.reduceSub])
  refine awP (op_move rfl rfl) ?_; (simp only [nA, ↓reduceIte])
  (refine awP (op_addi rfl rfl rfl (by omega)) ?_); (try simp only [nA, Nat.reduceBEq, Nat.reduceEqDiff, ↓reduceIte, Nat.reduceAdd, Nat.reduceSub])
  refine awP (op_move rfl rfl) ?_; (simp only [nA, Nat.reduceEqDiff, ↓reduceIte])
  refine awP (op_move rfl rfl) ?_; (simp only [nA, Nat.reduceEqDiff, ↓reduceIte])
  refine awJ (op_callN (r := 0) rfl en53 (show Fn Try.prog 53 [srt u (Go.Sort.partition befB d2 x y pv).2.2] [.agg (dataW u), .v (.int .i64 (((Go.Sort.partition befB d2 x y pv).1 : Nat) + 1)), .v (.int .i64 (y : Nat)), .v (.int .i64 (l1 : Nat))] [] [srt u (Go.Sort.pdq befB (Go.Sort.partition befB d2 x y pv).2.2 ((Go.Sort.partition befB d2 x y pv).1 + 1) y l1 true true)] from ih (y - ((Go.Sort.partition befB d2 x y pv).1 + 1)) (by omega) (u := u) (d := (Go.Sort.partition befB d2 x y pv).2.2) (a := (Go.Sort.partition befB d2 x y pv).1 + 1) (b := y) (lim := l1) rfl (by omega) (by omega) (by omega) (by omega) (by omega)) (by exact rfl) (RL.cons (.base (.same (by exact rfl))) (RL.cons (.base (.same (by exact rfl))) (RL.cons (.base (.same (by exact rfl))) (RL.cons (.base (.same (by exact rfl))) RL.nil)))) (by exact ⟨_, _, _, _, rfl, rfl⟩) (by exact rfl) (by exact rfl) (by exact rfl)) ?_; (try simp only [nA, Nat.reduceBEq, Nat.reduceEqDiff, ↓reduceIte, Nat.reduceAdd, Nat.reduceSub])
  refine AWL.nil ?_
  (refine hK _ ?_; clear hK K; (skip))
  refine AW.region ?_
  refine awP (op_move rfl rfl) ?_; (simp only [nA, ↓reduceIte])
  refine awP (op_assign rfl rfl) ?_; (simp only [nA])
  refine AWL.nil ?_
  (try simp only [thenE, inBlk, Nat.reduceEqDiff, ↓reduceIte])
  exact ⟨(x, (Go.Sort.partition befB d2 x y pv).1, l1, decide (y - (Go.Sort.partition befB d2 x y pv).1 ≥ (y - x) / 8), (Go.Sort.partition befB d2 x y pv).2.1, Go.Sort.pdq befB (Go.Sort.partition befB d2 x y pv).2.2 ((Go.Sort.partition befB d2 x y pv).1 + 1) y l1 true true), ⟨(by dsimp only; omega), (by dsimp only; omega), (by dsimp only; omega), hl2, (by dsimp only; omega), (by dsimp only; rw [← hP, hrest])⟩, (by dsimp only; omega), ⟨rfl, rfl, rfl, rfl, vbool (by omega), rfl, trivial⟩, rfl, trivial⟩
end Go.Proofs.Ytmdohphcolffmaa
namespace Go.Proofs.Ytmdohphcolffmaa
open Go.RowKit Go.Shelf
section
open Go.Sort
theorem befB_swo : SWO befB := by
  refine ⟨fun x => ?_, fun x y z h1 h2 => ?_, fun x y z h1 h2 => ?_⟩
  · cases h : befB x x with
    | false => rfl
    | true => exact absurd (bef_iff.1 h) (Bef.asymm x x (bef_iff.1 h))
  · exact bef_iff.2 ((bef_iff.1 h1).trans (bef_iff.1 h2))
  cases h : befB x z with
  | false => rfl
  | true =>
    have h3 := bef_iff.1 h
    have n1 : ¬ Bef x y := fun e => by rw [bef_iff.2 e] at h1; cases h1
    have n2 : ¬ Bef y z := fun e => by rw [bef_iff.2 e] at h2; cases h2
    exfalso
    unfold Bef at h3 n1 n2
    rcases h3 with h3 | ⟨h3, hp⟩
    · have a1 : ¬ x.weight > y.weight := fun e => n1 (.inl e)
      have a2 : ¬ y.weight > z.weight := fun e => n2 (.inl e)
      omega
    have a1 : ¬ x.weight > y.weight := fun e => n1 (.inl e)
    have a2 : ¬ y.weight > z.weight := fun e => n2 (.inl e)
    have b1 : ¬ PLt x.plate y.plate := fun e => n1 (.inr ⟨by omega, e⟩)
    have b2 : ¬ PLt y.plate z.plate := fun e => n2 (.inr ⟨by omega, e⟩)
    rcases cmpP_cases x.plate y.plate with ⟨q, _⟩ | ⟨q, _⟩ | ⟨q, _⟩
    · exact b1 q
    · rw [q] at hp; exact b2 hp
    exact b2 (q.trans hp)
theorem pdq_ordV {d : Array Piece} {lim : Nat} (h : DisP d.toList) : (pdq befB d 0 d.size lim true true).toList = ordV d.toList := by
  obtain ⟨⟨h1, _, h2⟩, h3⟩ := pdq_sorts befB befB_swo d 0 d.size lim true true (Nat.zero_le _) (Nat.le_refl _) (.inl rfl)
  generalize hd' : pdq befB d 0 d.size lim true true = d' at *
  have hperm : d'.toList.Perm d.toList := by
    have := h2
    rw [Array.extract_eq_self_of_le (by omega), Array.extract_eq_self_of_le (by omega)] at this
    exact this
  refine ord_unique h hperm ?_
  rw [List.pairwise_iff_getElem]
  intro i j hi hj hij
  rw [Array.length_toList] at hi hj
  have hl := h3 i j (Nat.zero_le _) hij (by omega)
  rw [getElem!_pos d' j hj, getElem!_pos d' i hi] at hl
  simp only [Array.getElem_toList]
  have hdis : DisP d'.toList := List.Pairwise.perm h hperm.symm (fun h e => h e.symm)
  have hne := List.pairwise_iff_getElem.1 hdis i j (by simpa using hi) (by simpa using hj) hij
  simp only [Array.getElem_toList] at hne
  refine Bef.total (fun e => hne e.symm) (fun e => ?_)
  rw [bef_iff.2 e] at hl
  cases hl
end
/-- A contract that holds where two blocks have come, holds where they have not. -/
theorem Fn34 {u : Value} {d : Array Piece} (h49 : d.size ≤ 49) : ∃ lim, Fn Try.prog 34 [srt u d] [.v (.iface 27 u), .clo 35 [.rop [.v u]]] [] [srt u (if d.size ≤ 1 then d else Go.Sort.pdq befB d 0 d.size lim true true)] := by
  refine ⟨Lib.bitLen d.size, ?_⟩
  intro w S vals bss vs hc
  obtain ⟨v, rfl⟩ : ∃ v, vals = [v] := by
    match vals, hc.nv with
    | [v], _ => exact ⟨v, rfl⟩
  obtain ⟨bs, rfl⟩ : ∃ b, bss = [b] := by
    match bss, hc.nb with
    | [b], _ => exact ⟨b, rfl⟩
  have hrep := hc.rep 0 _ v bs rfl rfl rfl
  have hnm : v = u ∧ Rep Try.prog S w bs u (.own 41 (rowsP d)) := by
    cases hrep with
    | nm h => exact ⟨rfl, h⟩
  obtain ⟨rfl, hr1⟩ := hnm
  obtain ⟨v1, v2, rfl⟩ : ∃ v1 v2, vs = [v1, v2] := by
    match vs, hc.args.1 with
    | [v1, v2], _ => exact ⟨v1, v2, rfl⟩
  have e1 : v1 = .iface 27 v := (show Rep Try.prog S w [] v1 (.v (.iface 27 v)) from hc.args.2 0 v1 _ rfl rfl).v_inv.1
  subst e1
  obtain ⟨lb, rfl, l1, l2⟩ := (show Rep Try.prog S w [] v2 (.clo 35 [.rop [.v v]]) from hc.args.2 1 v2 _ rfl rfl).clo_inv
  have hk0 : ∀ os, Kept (fun _ => True) w (Go.Sort.grow w os) := fun os => kept_grow
  by_cases hd : d.size ≤ 1
  · rw [if_pos hd]
    have hu : ∃ p n c, v = .slice p n c ∧ n ≤ 1 := by
      obtain ⟨us', sz, bss', -, -, -, hown, -⟩ := hr1.own_inv
      rw [List.length_map, Array.length_toList] at hown
      rcases hown.2 with ⟨hnil, h0⟩ | ⟨g', cap, cur, hc, -⟩
      · exact ⟨_, _, _, hnil, by omega⟩
      exact ⟨_, _, _, hc, hd⟩
    obtain ⟨p, n, c, rfl, hn⟩ := hu
    have hcall : Calls Try.prog 34 #[.iface 27 (.slice p n c), .func (.func 35) #[] lb.toArray] w fun e w' => e = .returned (.tuple #[]) ∧ ∃ os, w' = Go.Sort.grow w os := by
      rcases (by omega : n = 0 ∨ n = 1) with rfl | rfl
      · exact Any.sort_Slice_tiny laysGg6 27 41 pcT pcE (by kernel_rfl) (by kernel_rfl) (by kernel_rfl) (by kernel_rfl) 25 (fun _ => by kernel_rfl) p 0 c (by decide) 63 (by kernel_rfl) (.func 35) #[] lb.toArray w
      exact Any.sort_Slice_tiny laysGg6 27 41 pcT pcE (by kernel_rfl) (by kernel_rfl) (by kernel_rfl) (by kernel_rfl) 25 (fun _ => by kernel_rfl) p 1 c (by decide) 64 (by kernel_rfl) (.func 35) #[] lb.toArray w
    refine hcall.mono ?_
    rintro e w' ⟨rfl, os, rfl⟩
    refine ⟨[], [], [srt (.slice p n c) d], [], [bs], rfl, ⟨(hk0 os).mono fun _ _ _ => trivial, rfl, rfl, rfl, rfl, fun i u y bs h => by simp at h, fun r x v b h1 h2 h3 => ?_, by simpa using hc.own, fun b h => .inr (by simpa using h)⟩, rfl, rfl⟩
    cases r with
    | succ r => simp at h1
    | zero =>
      simp at h1 h2 h3
      subst h1 h2 h3
      exact (hrep.kept (hk0 os) (fun _ _ _ => trivial) (fun _ _ => trivial)).mono fun k _ h => .inl h
  rw [if_neg hd]
  obtain ⟨g, cap, cur, hu, hg, c1, c2, c3, c4, hbs⟩ := repK_inv (enc := encP) (k := 5) (ds := d.toList) (fun _ => rfl) hr1 sz41 (by rw [Array.length_toList]; omega)
  rw [Array.length_toList] at hu c1 c4
  subst hu
  have hb0 : Lib.bitLen d.size ≤ 100 := by
    have : ∀ n, n < 50 → Lib.bitLen n ≤ 100 := by decide
    exact this _ (by omega)
  refine Any.sort_Slice_of_pdq laysGg6 27 41 pcT pcE (by kernel_rfl) (by kernel_rfl) (by kernel_rfl) (by kernel_rfl) 25 (fun _ => by kernel_rfl) _ d.size cap (by omega) 71 (by rw [pcK _ (by omega)]; kernel_rfl) (.func 35) #[] lb.toArray w
    (fun w' => ∃ bss', Went Try.prog w S [.slice (some ⟨g, 0, none⟩) d.size cap] [bs] w' [] [] [srt (.slice (some ⟨g, 0, none⟩) d.size cap) (Go.Sort.pdq befB d 0 d.size (Lib.bitLen d.size) true true)] [] bss') ?_ |>.mono ?_
  · have hB : sliceBound Try.prog 41 pcE 25 (some ⟨g, 0, none⟩) d.size cap = #[.slice (some ⟨g, 0, none⟩) d.size cap, th41] := by
      unfold sliceBound
      rw [pcK _ (by omega)]
      rfl
    rw [hB]
    have hkW : Kept (fun _ => True) w (sliceWorld Try.prog laysGg6_ren 27 (some ⟨g, 0, none⟩) d.size cap w) := ((Kept.refl _ w).alloc _).alloc _
    generalize sliceWorld Try.prog laysGg6_ren 27 (some ⟨g, 0, none⟩) d.size cap w = W at hkW ⊢
    have hsz := hkW.size
    have hcl : Rep Try.prog S W [] (.func (.func 35) #[] lb.toArray) (.clo 35 [.rop [.v (.slice (some ⟨g, 0, none⟩) d.size cap)]]) :=
      (Rep.clo l1 l2).kept hkW (fun _ _ _ => trivial) (fun _ h => by simp at h)
    have hcame : Came Try.prog [srt (.slice (some ⟨g, 0, none⟩) d.size cap) d] [.agg (dataW (.slice (some ⟨g, 0, none⟩) d.size cap)), .v (.int .i64 ((0 : Nat) : Int)), .v (.int .i64 (d.size : Nat)), .v (.int .i64 (Lib.bitLen d.size : Nat))] W S
        [.slice (some ⟨g, 0, none⟩) d.size cap] [bs] [.agg #[.func (.func 35) #[] lb.toArray, .func (.func 71) #[] #[.slice (some ⟨g, 0, none⟩) d.size cap, th41]], .int .i64 ((0 : Nat) : Int), .int .i64 (d.size : Nat), .int .i64 (Lib.bitLen d.size : Nat)] := by
      refine ⟨fun k h => Nat.lt_of_lt_of_le (hc.lt k h) hsz, rfl, rfl, fun r x v b h1 h2 h3 => ?_, hc.own, hc.apart, RL.cons ⟨_, rfl, RL.cons hcl (RL.cons ?_ RL.nil)⟩ (RL.cons (Rep.v rfl) (RL.cons (Rep.v rfl) (RL.cons (Rep.v rfl) RL.nil)))⟩
      · exact (hc.rep r x v b h1 h2 h3).kept hkW (fun _ _ _ => trivial) (fun _ _ => trivial)
      · exact Rep.clo (us := [.slice (some ⟨g, 0, none⟩) d.size cap, th41]) rfl (fun i u x h1 h2 => by
          match i, h1, h2 with
          | 0, h1, h2 => injection h1 with h1; injection h2 with h2; subst h1 h2; exact .v rfl
          | 1, h1, h2 => injection h1 with h1; injection h2 with h2; subst h1 h2; exact .v rfl)
    have hsp := C53 (d.size - 0) (u := .slice (some ⟨g, 0, none⟩) d.size cap) (d := d) (a := 0) (b := d.size) (lim := Lib.bitLen d.size) rfl (Nat.zero_le _) (Nat.le_refl _) h49 (by omega) hb0
    refine (hsp W S _ _ _ hcame).mono ?_
    rintro e w' ⟨us, ys, outs, bsr, bss', rfl, went, rfl, rfl⟩
    have hus : us = [] := List.eq_nil_of_length_eq_zero went.nu
    have hbr : bsr = [] := List.eq_nil_of_length_eq_zero went.nr
    subst hus hbr
    refine ⟨rfl, bss', (hkW.mono (fun _ _ _ => trivial)).then went.kept (fun _ _ h => h), rfl, rfl, rfl, went.nb, fun i u y b h => by simp at h, fun r x v b h1 h2 h3 => (went.rep r x v b h1 h2 h3).mono fun k _ h => ?_, went.own, fun b h => ?_⟩
    · rcases h with h | ⟨h1, h2, h3⟩
      · exact .inl h
      exact .inr ⟨h1.imp (fun h => Nat.le_trans hsz h) id, h2, h3⟩
    exact (went.mine b h).imp (fun h => Nat.le_trans hsz h) id
  rintro e w' ⟨rfl, bss', hw⟩
  exact ⟨[], [], _, [], bss', rfl, hw, rfl, rfl⟩
end Go.Proofs.Ytmdohphcolffmaa
namespace Go.Proofs.Ytmdohphcolffmaa
open Go.RowKit
set_option linter.unusedSimpArgs false
set_option linter.unusedVariables false
set_option maxRecDepth 100000
theorem asgE_at {l : List Container} {bags : List Piece} {i : Nat} (hi : i < bags.length) (h0 : ∀ j, j < i → errB l bags j = 0) (he : errB l bags i ≠ 0) : asgE l bags = errB l bags i := by
  unfold asgE
  rw [orL_yes (i := i) (by simpa using hi) (fun x hx => ?_) (by simpa using he)]
  · simp
  rw [← List.map_take, List.take_range] at hx
  obtain ⟨j, hj, rfl⟩ := List.mem_map.1 hx
  rw [List.mem_range] at hj
  exact h0 j (by omega)
theorem asgE_no {l : List Container} {bags : List Piece} (h0 : ∀ j, j < bags.length → errB l bags j = 0) : asgE l bags = 0 := by
  unfold asgE
  refine orL_no (i := bags.length) (by simp) (fun x hx => ?_)
  rw [← List.map_take, List.take_range] at hx
  obtain ⟨j, hj, rfl⟩ := List.mem_map.1 hx
  rw [List.mem_range] at hj
  exact h0 j (by omega)
theorem asgV_chk {l : List Container} {f : Flight} {bags : List Piece} (h : chkL l ≠ 0) : asgV l f bags = ([], [], chkL l) := by unfold asgV; rw [if_pos h]
theorem asgV_err {l : List Container} {f : Flight} {bags : List Piece} (h : chkL l = 0) {e : Int} (he : asgE l bags = e) (h0 : e ≠ 0) : asgV l f bags = ([], [], e) := by
  unfold asgV
  rw [if_neg (by simpa using h), if_pos (by rw [he]; exact h0), he]
theorem asgV_yes {l : List Container} {f : Flight} {bags : List Piece} (h : chkL l = 0) (he : asgE l bags = 0) : asgV l f bags = ((asgF f (l, []) (ordV bags)).1, (asgF f (l, []) (ordV bags)).2, 0) := by
  unfold asgV
  rw [if_neg (by simpa using h), if_neg (by simpa using he)]
theorem errB_1 {l : List Container} {bags : List Piece} {i : Nat} (h : piB (bags.getD i default) = false) : errB l bags i = 1 := by unfold errB; rw [if_pos h]
theorem errB_5 {l : List Container} {bags : List Piece} {i : Nat} (h : piB (bags.getD i default) = true) (h5 : ((findL l (bags.getD i default).plate).2 || (bags.take i).any fun x => decide (x.plate = (bags.getD i default).plate)) = true) : errB l bags i = 5 := by
  unfold errB
  rw [if_neg (by rw [h]; decide), if_pos h5]
theorem errB_00 {l : List Container} {bags : List Piece} {i : Nat} (h : piB (bags.getD i default) = true) (h5 : ((findL l (bags.getD i default).plate).2 || (bags.take i).any fun x => decide (x.plate = (bags.getD i default).plate)) = false) : errB l bags i = 0 := by
  unfold errB
  rw [if_neg (by rw [h]; decide), if_neg (by rw [h5]; decide)]
/-- The plates seen so far. -/
def seenP (bags : List Piece) (i : Nat) : List Plate := ((bags.take i).map Piece.plate).reverse
theorem seen_succ {bags : List Piece} {i : Nat} (h : i < bags.length) : seenP bags (i + 1) = (bags.getD i default).plate :: seenP bags i := by
  unfold seenP
  rw [List.take_add_one, List.getElem?_eq_getElem h, getD_el h, List.map_append, List.reverse_append]
  rfl
theorem seen_len {bags : List Piece} {i : Nat} (h : i ≤ bags.length) : (seenP bags i).length = i := by unfold seenP; simp; omega
theorem seen_mem {bags : List Piece} {i : Nat} {p : Plate} : decide (p ∈ seenP bags i) = (bags.take i).any fun x => decide (x.plate = p) := by
  unfold seenP
  rw [Bool.eq_iff_iff]
  simp only [decide_eq_true_eq, List.mem_reverse, List.mem_map, List.any_eq_true]
theorem S34 {u : Value} {bags : List Piece} (h : bags.length ≤ 49) (hd : DisP bags) : Fn Try.prog 34 [.nm u 41 (bags.map Piece.av)] [.v (.iface 27 u), .clo 35 [.rop [.v u]]] [] [.nm u 41 ((ordV bags).map Piece.av)] := by
  obtain ⟨lim, hF⟩ := Fn34 (u := u) (d := bags.toArray) (by simpa using h)
  have e : (if bags.toArray.size ≤ 1 then bags.toArray else Go.Sort.pdq befB bags.toArray 0 bags.toArray.size lim true true).toList = ordV bags := by
    split
    · rename_i h1
      have h1 : bags.length ≤ 1 := by simpa using h1
      refine ord_unique hd (List.Perm.refl _) ?_
      match bags, h1 with
      | [], _ => exact List.Pairwise.nil
      | [_], _ => exact List.pairwise_singleton _ _
    exact pdq_ordV hd
  have : rowsP (if bags.toArray.size ≤ 1 then bags.toArray else Go.Sort.pdq befB bags.toArray 0 bags.toArray.size lim true true) = (ordV bags).map Piece.av := by
    unfold rowsP
    rw [e]
  unfold srt at hF
  rw [this] at hF
  exact hF
theorem zf71 : ∀ w, (zeroValue 71).run Try.prog w = .ok (.agg #[]) w := fun w => by kernel_rfl
theorem ordV_len (l : List Piece) : (ordV l).length = l.length := (ordV_perm l).length_eq
end Go.Proofs.Ytmdohphcolffmaa
