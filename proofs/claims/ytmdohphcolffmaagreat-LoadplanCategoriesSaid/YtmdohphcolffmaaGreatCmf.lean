import Derived.Test.YtmdohphcolffmaaGreatCme
namespace Go.Proofs.YtmdohphcolffmaaGreat
open Go.RowKit
set_option linter.unusedSimpArgs false
set_option linter.unusedVariables false
set_option maxRecDepth 100000
set_option maxHeartbeats 8000000 in
theorem C109i {u : Value} {d : Array Piece} {l h g : Int} (lo hi f : Nat) (e1 : l = lo) (e2 : h = hi) (e3 : g = f) (hlo : lo ≤ 1000) (hb : f + hi ≤ d.size) (hl : d.size ≤ 1000) : Fn Tryz.prog 109 [srt u d] [.agg (dataW u), .v (.int .i64 l), .v (.int .i64 h), .v (.int .i64 g)] [] [srt u (Go.Sort.siftDown befB hi f lo d)] := by
  subst e1 e2 e3; exact C109 hlo hb hl
theorem en109 : Enters Tryz.prog 109 := enters_of Tryz.func109 (by kernel_rfl) rfl
set_option maxHeartbeats 8000000 in
theorem C96 {u : Value} {d : Array Piece} {a b : Nat} (hab : a < b) (hb : b ≤ d.size) (hl : d.size ≤ 1000) : Fn Tryz.prog 96 [srt u d] [.agg (dataW u), .v (.int .i64 a), .v (.int .i64 b)] [] [srt u (Go.Sort.heapSort befB d a b)] := by
  refine Spec.body Tryz.func96 rfl Tryz.ntmps96 (by simp) rfl ?_; intro S0 own0 v0 w0
  (refine AW.seq_k ?_; intro K hK)
  refine AW.region ?_
  refine awJ (op_box rfl rfl rfl sz114 rfl) ?_; (simp only [nA, Nat.reduceBEq, Nat.reduceEqDiff, ↓reduceIte])
  refine AWL.nil ?_
  (refine hK _ ?_; clear hK K; (try simp only [nA, Nat.reduceBEq, Nat.reduceEqDiff, ↓reduceIte, Nat.reduceAdd, Nat.reduceSub]))
  (refine AW.seq_k ?_; intro K hK)
  refine AW.region ?_
  refine awP (op_move rfl rfl) ?_; (simp only [nA, ↓reduceIte])
  refine awP (op_assign rfl rfl) ?_; (simp only [nA])
  refine AWL.nil ?_
  (refine hK _ ?_; clear hK K; (skip))
  (refine AW.seq_k ?_; intro K hK)
  refine AW.region ?_
  refine awP (op_assign rfl rfl) ?_; (try simp only [nA, Nat.reduceBEq, Nat.reduceEqDiff, ↓reduceIte, Nat.reduceAdd, Nat.reduceSub])
  refine AWL.nil ?_
  (refine hK _ ?_; clear hK K; (skip))
  (refine AW.seq_k ?_; intro K hK)
  refine AW.region ?_
  refine awP (op_move rfl rfl) ?_; (simp only [nA, ↓reduceIte])
  refine awP (op_move rfl rfl) ?_; (simp only [nA, ↓reduceIte])
  (refine awP (op_subi rfl rfl rfl (by omega)) ?_); (try simp only [nA, Nat.reduceBEq, Nat.reduceEqDiff, ↓reduceIte, Nat.reduceAdd, Nat.reduceSub])
  refine awP (op_assign rfl rfl) ?_; (simp only [nA])
  refine AWL.nil ?_
  (refine hK _ ?_; clear hK K; (skip))
  (refine AW.seq_k ?_; intro K hK)
  (refine AW.seq_k ?_; intro K hK)
  refine AW.region ?_
  refine awP (op_move rfl rfl) ?_; (simp only [nA])
  (refine awP (op_subi rfl rfl rfl (by omega)) ?_); (try simp only [nA, Nat.reduceBEq, Nat.reduceEqDiff, ↓reduceIte, Nat.reduceAdd, Nat.reduceSub])
  (refine awP (op_quoi rfl rfl rfl (by omega)) ?_); (try simp only [nA, Nat.reduceBEq, Nat.reduceEqDiff, ↓reduceIte, Nat.reduceAdd, Nat.reduceSub])
  refine awP (op_assign rfl rfl) ?_; (simp only [nA])
  refine AWL.nil ?_
  (refine hK _ ?_; clear hK K; (skip))
  refine AW.block ?_
  refine AW.loopI (fun (q : Nat × Array Piece) => [(3, .ptr 1 1 0 0), (6, .v (.int .i64 a)), (7, .v (.int .i64 0)), (8, .v (.int .i64 ((b - a : Nat) : Int))), (9, .v (.int .i64 ((q.1 : Nat) - 1 : Int)))]) (fun q => ⟨[(0, srt u q.2), (1, .own 114 [dataW u])], 2⟩) (fun q => q.1 ≤ (b - a - 1) / 2 + 1 ∧ q.2.size = d.size ∧ Go.Sort.heapBuild befB (b - a) a q.1 q.2 = Go.Sort.heapBuild befB (b - a) a ((b - a - 1) / 2 + 1) d) (fun q => q.1) ((b - a - 1) / 2 + 1, d) ⟨by omega, rfl, rfl⟩ ⟨rfl, rfl, rfl, vint (by omega), vint (by omega), trivial⟩ rfl ?_; rintro ⟨k, dk⟩ ρ ⟨hk, hs, hO⟩; dsimp only at hk hs hO ⊢; simp only [updL]
  (refine AW.seq_k ?_; intro K hK)
  (refine AW.seq_k ?_; intro K hK)
  refine AW.region ?_
  refine awP (op_move rfl rfl) ?_; (simp only [nA, ↓reduceIte])
  refine awP (op_geq rfl rfl rfl) ?_; (try simp only [nA, Nat.reduceBEq, Nat.reduceEqDiff, ↓reduceIte, Nat.reduceAdd, Nat.reduceSub])
  refine AWL.nil ?_
  (refine hK _ ?_; clear hK K; (skip))
  refine AW.cond rfl rfl rfl (fun hc => ?_) (fun hc => ?_)
  ·
   (try simp only [hcS] at hc); have hc1 := hc; have hk0 : 0 < k := by omega
   refine AW.skip ?_
   (refine hK _ ?_; clear hK K; (skip))
   (refine AW.seq_k ?_; intro K hK)
   refine AW.block ?_
   refine AW.region ?_
   (refine awR (op_load_ptr rfl rfl rfl rfl ag114 sz114 (bl rfl) rfl) ?_); (try simp only [nA, Nat.reduceBEq, Nat.reduceEqDiff, ↓reduceIte, Nat.reduceAdd, Nat.reduceSub])
   refine awP (op_move rfl rfl) ?_; (simp only [nA, ↓reduceIte])
   refine awP (op_move rfl rfl) ?_; (simp only [nA, ↓reduceIte])
   refine awP (op_move rfl rfl) ?_; (simp only [nA, ↓reduceIte])
   refine awJ (op_callN (r := 0) rfl en109 (C109i (d := dk) (k - 1) (b - a) a (by omega) (by omega) (by omega) (by omega) (by omega) (by omega)) rfl (RL.cons (.base (.same rfl)) (RL.cons (.base (.same rfl)) (RL.cons (.base (.same rfl)) (RL.cons (.base (.same rfl)) RL.nil)))) ⟨_, _, _, _, rfl, rfl⟩ rfl rfl rfl) ?_; (try simp only [nA, Nat.reduceBEq, Nat.reduceEqDiff, ↓reduceIte, Nat.reduceAdd, Nat.reduceSub])
   refine AWL.nil ?_
   (try simp only [thenE, inBlk, Nat.reduceEqDiff, ↓reduceIte])
   (refine hK _ ?_; clear hK K; (skip))
   refine AW.region ?_
   refine awP (op_move rfl rfl) ?_; (simp only [nA, ↓reduceIte])
   (refine awP (op_subi rfl rfl rfl (by omega)) ?_); (try simp only [nA, Nat.reduceBEq, Nat.reduceEqDiff, ↓reduceIte, Nat.reduceAdd, Nat.reduceSub])
   refine awP (op_assign rfl rfl) ?_; (simp only [nA])
   skip
   refine AWL.nil ?_
   refine ⟨(k - 1, Go.Sort.siftDown befB (b - a) a (k - 1) dk), ⟨by omega, by rw [size_sift _ _ _ rfl, hs], ?_⟩, by omega, ⟨rfl, rfl, rfl, rfl, vint (by omega), trivial⟩, rfl, (by rfl)⟩; rw [← hO]; obtain ⟨k, rfl⟩ : ∃ q, k = q + 1 := ⟨k - 1, by omega⟩; rfl
  (try simp only [hcS] at hc); have hc1 := hc; have hk0 : k = 0 := (by omega); subst hk0
  refine AW.exit ?_; (try simp only [thenE, inBlk, Nat.reduceEqDiff, ↓reduceIte])
  clear hK K
  (refine hK _ ?_; clear hK K; (skip))
  (refine AW.seq_k ?_; intro K hK)
  refine AW.region ?_
  refine awP (op_move rfl rfl) ?_; (simp only [nA, ↓reduceIte])
  (refine awP (op_subi rfl rfl rfl (by omega)) ?_); (try simp only [nA, Nat.reduceBEq, Nat.reduceEqDiff, ↓reduceIte, Nat.reduceAdd, Nat.reduceSub])
  refine awP (op_assign rfl rfl) ?_; (simp only [nA])
  refine AWL.nil ?_
  (refine hK _ ?_; clear hK K; (skip))
  refine AW.block ?_
  refine AW.loopI (fun (q : Nat × Array Piece) => [(3, .ptr 1 1 0 0), (6, .v (.int .i64 a)), (7, .v (.int .i64 0)), (8, .v (.int .i64 ((b - a : Nat) : Int))), (10, .v (.int .i64 ((q.1 : Nat) - 1 : Int)))]) (fun q => ⟨[(0, srt u q.2), (1, .own 114 [dataW u])], 2⟩) (fun q => q.1 ≤ b - a ∧ q.2.size = d.size ∧ Go.Sort.heapPop befB a q.1 q.2 = Go.Sort.heapSort befB d a b) (fun q => q.1) (b - a, dk) ⟨by omega, hs, by unfold Go.Sort.heapSort; rw [← hO]; rfl⟩ ⟨rfl, rfl, rfl, rfl, vint (by omega), trivial⟩ rfl ?_; rintro ⟨m, dm⟩ ρ ⟨hm, hs2, hP⟩; dsimp only at hm hs2 hP ⊢; simp only [updL]
  (refine AW.seq_k ?_; intro K hK)
  (refine AW.seq_k ?_; intro K hK)
  refine AW.region ?_
  refine awP (op_move rfl rfl) ?_; (simp only [nA, ↓reduceIte])
  refine awP (op_geq rfl rfl rfl) ?_; (try simp only [nA, Nat.reduceBEq, Nat.reduceEqDiff, ↓reduceIte, Nat.reduceAdd, Nat.reduceSub])
  refine AWL.nil ?_
  (refine hK _ ?_; clear hK K; (skip))
  refine AW.cond rfl rfl rfl (fun hc => ?_) (fun hc => ?_)
  ·
   (try simp only [hcS] at hc); have hc2 := hc; have hm0 : 0 < m := by omega
   refine AW.skip ?_
   (refine hK _ ?_; clear hK K; (skip))
   (refine AW.seq_k ?_; intro K hK)
   refine AW.block ?_
   (refine AW.seq_k ?_; intro K hK)
   refine AW.region ?_
   (refine awP (op_fa_ptr rfl rfl rfl fl114_1 (by exact sz2) (by decide) rfl) ?_); (try simp only [nA, Nat.reduceBEq, Nat.reduceEqDiff, ↓reduceIte, Nat.reduceAdd, Nat.reduceSub])
   (refine awR (op_load_ptr1 rfl rfl rfl rfl ag108 rfl rfl) ?_); (try simp only [nA, Nat.reduceBEq, Nat.reduceEqDiff, ↓reduceIte, Nat.reduceAdd, Nat.reduceSub])
   refine awP (op_move rfl rfl) ?_; (simp only [nA, ↓reduceIte])
   refine awP (op_move rfl rfl) ?_; (simp only [nA, ↓reduceIte])
   refine awP (op_move rfl rfl) ?_; (simp only [nA, ↓reduceIte])
   (refine awP (op_addi rfl rfl rfl (by omega)) ?_); (try simp only [nA, Nat.reduceBEq, Nat.reduceEqDiff, ↓reduceIte, Nat.reduceAdd, Nat.reduceSub])
   refine awJ (op_sw (r := 0) (d := dm) rfl rfl rfl rfl rfl (by omega) (by omega) rfl) ?_; (try simp only [nA, Nat.reduceBEq, Nat.reduceEqDiff, ↓reduceIte, Nat.reduceAdd, Nat.reduceSub])
   refine AWL.nil ?_
   (refine hK _ ?_; clear hK K; (skip))
   refine AW.region ?_
   (refine awR (op_load_ptr rfl rfl rfl rfl ag114 sz114 (bl rfl) rfl) ?_); (try simp only [nA, Nat.reduceBEq, Nat.reduceEqDiff, ↓reduceIte, Nat.reduceAdd, Nat.reduceSub])
   refine awP (op_move rfl rfl) ?_; (simp only [nA, ↓reduceIte])
   refine awP (op_move rfl rfl) ?_; (simp only [nA, ↓reduceIte])
   refine awP (op_move rfl rfl) ?_; (simp only [nA, ↓reduceIte])
   refine awJ (op_callN (r := 0) rfl en109 (C109i (d := Go.Sort.swp dm ((a : Int)).toNat ((a : Int) + ((m : Int) - 1)).toNat) 0 (m - 1) a (by omega) (by omega) (by omega) (by omega) (by rw [Go.Sort.size_swp]; omega) (by rw [Go.Sort.size_swp]; omega)) rfl (RL.cons (.base (.same rfl)) (RL.cons (.base (.same rfl)) (RL.cons (.base (.same rfl)) (RL.cons (.base (.same rfl)) RL.nil)))) ⟨_, _, _, _, rfl, rfl⟩ rfl rfl rfl) ?_; (try simp only [nA, Nat.reduceBEq, Nat.reduceEqDiff, ↓reduceIte, Nat.reduceAdd, Nat.reduceSub])
   refine AWL.nil ?_
   (try simp only [thenE, inBlk, Nat.reduceEqDiff, ↓reduceIte])
   (refine hK _ ?_; clear hK K; (skip))
   refine AW.region ?_
   refine awP (op_move rfl rfl) ?_; (simp only [nA, ↓reduceIte])
   (refine awP (op_subi rfl rfl rfl (by omega)) ?_); (try simp only [nA, Nat.reduceBEq, Nat.reduceEqDiff, ↓reduceIte, Nat.reduceAdd, Nat.reduceSub])
   refine awP (op_assign rfl rfl) ?_; (simp only [nA])
   skip
   refine AWL.nil ?_
   refine ⟨(m - 1, Go.Sort.siftDown befB (m - 1) a 0 (Go.Sort.swp dm a (a + (m - 1)))), ⟨by omega, by rw [size_sift _ _ _ rfl, Go.Sort.size_swp, hs2], ?_⟩, by omega, ⟨rfl, rfl, rfl, rfl, vint (by omega), trivial⟩, (by rw [show ((a : Int)).toNat = a by omega, show ((a : Int) + ((m : Int) - 1)).toNat = a + (m - 1) by omega]), (by rfl)⟩; rw [← hP]; obtain ⟨m, rfl⟩ : ∃ q, m = q + 1 := ⟨m - 1, by omega⟩; rfl
  (try simp only [hcS] at hc); have hc2 := hc; have hm0 : m = 0 := (by omega); subst hm0
  refine AW.exit ?_; (try simp only [thenE, inBlk, Nat.reduceEqDiff, ↓reduceIte])
  clear hK K
  rw [← hP]; exact RQ.of (.inr rfl) rfl .nil (by simp) rfl (one_out rfl)
end Go.Proofs.YtmdohphcolffmaaGreat
namespace Go.Proofs.YtmdohphcolffmaaGreat
open Go.RowKit Go.Shelf
section
open Go.Sort
theorem Fn.ofK {f : FuncId} {u : Value} {d d' : Array Piece} {x y : Value} (h0 : 0 < d.size) (hs : d'.size = d.size)
    (hK : ∀ (w : World) (blk c : Nat) (lb : Array Value), u = .slice (some ⟨blk, 0, none⟩) d.size c → HoldsK encP 5 w blk 0 d → blk < w.heap.size →
      Calls Tryz.prog f #[.agg #[.func (.func 48) #[] lb, .func (.func 92) #[] #[.slice (some ⟨blk, 0, none⟩) d.size c, th41]], x, y] w fun e w' => e = .returned (.tuple #[]) ∧ ∃ n os, w' = sortWorldK encP 5 w blk 0 n d' os) :
    Fn Tryz.prog f [srt u d] [.agg (dataW u), .v x, .v y] [] [srt u d'] := by
  intro w S vals bss vs hc
  obtain ⟨v, rfl⟩ : ∃ v, vals = [v] := by
    match vals, hc.nv with
    | [v], _ => exact ⟨v, rfl⟩
  obtain ⟨bs, rfl⟩ : ∃ b, bss = [b] := by
    match bss, hc.nb with
    | [b], _ => exact ⟨b, rfl⟩
  have hrep := hc.rep 0 _ v bs rfl rfl rfl
  have hnm : v = u ∧ Rep Tryz.prog S w bs u (.own 35 (rowsP d)) := by
    cases hrep with
    | nm h => exact ⟨rfl, h⟩
  obtain ⟨rfl, hr1⟩ := hnm
  obtain ⟨g, cap, cur, hu, hg, c1, c2, c3, c4, hbs⟩ := repK_inv (enc := encP) (k := 5) (ds := d.toList) (fun _ => rfl) hr1 sz35 (by simpa using h0)
  subst hbs
  obtain ⟨v1, v2, v3, rfl⟩ : ∃ v1 v2 v3, vs = [v1, v2, v3] := by
    match vs, hc.args.1 with
    | [v1, v2, v3], _ => exact ⟨v1, v2, v3, rfl⟩
  obtain ⟨us, rfl, rl⟩ := (show ∃ us, v1 = .agg us ∧ RL (RefOK Tryz.prog S w (insT [srt v d]) [v]) us.toList (dataW v) from hc.args.2 0 v1 _ rfl rfl)
  have e2 : v2 = x := (show Rep Tryz.prog S w [] v2 (.v x) from hc.args.2 1 v2 _ rfl rfl).v_inv.1
  have e3 : v3 = y := (show Rep Tryz.prog S w [] v3 (.v y) from hc.args.2 2 v3 _ rfl rfl).v_inv.1
  subst e2 e3
  obtain ⟨us, rfl⟩ : ∃ l : List Value, us = l.toArray := ⟨us.toList, by simp⟩
  simp only [List.toList_toArray] at rl
  obtain ⟨f1, f2, rfl⟩ : ∃ f1 f2, us = [f1, f2] := by
    match us, rl.1 with
    | [f1, f2], _ => exact ⟨f1, f2, rfl⟩
  obtain ⟨lb, rfl, -, -⟩ := (show Rep Tryz.prog S w [] f1 (.clo 48 [.rop [.v v]]) from rl.2 0 f1 _ rfl rfl).clo_inv
  obtain ⟨sb, rfl, sl, sr⟩ := (show Rep Tryz.prog S w [] f2 (.clo 92 [.v v, .v th41]) from rl.2 1 f2 _ rfl rfl).clo_inv
  obtain ⟨s1, s2, rfl⟩ : ∃ s1 s2, sb = [s1, s2] := by
    match sb, sl with
    | [s1, s2], _ => exact ⟨s1, s2, rfl⟩
  have e4 := (sr 0 s1 (.v v) rfl rfl).v_inv.1
  have e5 := (sr 1 s2 (.v th41) rfl rfl).v_inv.1
  subst e4 e5
  have hld : d.toList.length = d.size := Array.length_toList
  rw [hld] at hu c1 c4
  subst hu
  have hH : HoldsK encP 5 w g 0 d := by
    have := holdsKE (enc := encP) (k := 5) (ds := d.toList) (fun _ => rfl) hg (by rw [hld]; exact c4)
    simpa using this
  have hlt : g < w.heap.size := (Array.getElem?_eq_some_iff.1 hg).1
  refine (hK w g cap lb.toArray rfl hH hlt).mono ?_
  rintro e w' ⟨rfl, n, os, rfl⟩
  have hin : ∀ q, InL [[g]] q ↔ q = g := fun q => by
    constructor
    · rintro ⟨i, b1, h1, h2⟩
      cases i with
      | zero => simp at h1; subst h1; simpa using h2
      | succ i => simp at h1
    rintro rfl; exact ⟨0, [q], rfl, by simp⟩
  have hkept : Kept (fun q => q ≠ g) w (sortWorldK encP 5 w g 0 n d' os) := keptE (enc := id) (flatK encP 5 d')
  have hhp := heapE (enc := id) (n := n) (os := os) (flatK encP 5 d') hg
  have hld' : d'.toList.length = d'.size := Array.length_toList
  refine ⟨[], [], [srt (.slice (some ⟨g, 0, none⟩) d.size cap) d'], [], [[g]], rfl, ⟨hkept.mono fun q _ h e => h ((hin q).2 e), rfl, rfl, rfl, rfl, fun i u y bs h => by simp at h, fun r x v bs h1 h2 h3 => ?_, ⟨fun r b h => ?_, fun r r' b b' hne h1 h2 => ?_⟩, fun b h => .inr h⟩, rfl, rfl⟩
  · cases r with
    | succ r => simp at h1
    | zero =>
      simp at h1 h2 h3
      subst h1 h2 h3
      have ht := takeKE (enc := encP) (k := 5) (fun _ => rfl) cur d'.toList (by rw [hld', hs, c3]; omega)
      have := repK (enc := encP) (k := 5) (P := Tryz.prog) (S := After S w (sortWorldK encP 5 w g 0 n d' os) [[g]] ([] ++ [[g]])) (w := sortWorldK encP 5 w g 0 n d' os) (e := 35) (ds := d'.toList) (fun _ => rfl) one_encP sz35 hhp (by rw [hld', hs]; exact c1) c2 (by simp [putCells, c3]) (by simpa using ht)
      rw [hld', hs] at this
      exact .nm this
  · cases r with
    | zero => simp at h; subst h; simp
    | succ r => simp at h
  cases r with
  | zero => cases r' with
    | zero => exact absurd rfl hne
    | succ r' => simp at h2
  | succ r => simp at h1
end
end Go.Proofs.YtmdohphcolffmaaGreat
namespace Go.Proofs.YtmdohphcolffmaaGreat
open Go.RowKit Go.Shelf
def laysGg6_ren : Go.Shelf.Ren := ⟨fun | 6 => 47 | 10 => 68 | 11 => 69 | 12 => 70 | 13 => 71 | 14 => 72 | 24 => 93 | 25 => 94 | 26 => 95 | 27 => 96 | 28 => 97 | 29 => 98 | 30 => 99 | 31 => 100 | 32 => 101 | 33 => 102 | 34 => 109 | 35 => 110 | 36 => 111 | 37 => 112 | 38 => 113 | 39 => 118 | n => n, fun | 20 => 20 | 26 => 87 | 35 => 106 | 0 => 0 | 37 => 108 | 3 => 3 | 41 => 111 | 44 => 114 | 49 => 125 | 51 => 127 | 4 => 4 | 54 => 130 | 53 => 129 | 58 => 78 | 5 => 5 | 9 => 9 | 60 => 138 | 64 => 142 | 66 => 146 | 67 => 147 | 17 => 17 | 32 => 103 | 33 => 104 | 82 => 164 | 12 => 12 | 75 => 157 | 76 => 158 | 77 => 159 | 78 => 160 | 79 => 161 | 80 => 162 | n => n, fun | n => n⟩
theorem laysGg6 : Go.Proofs.LaysGg.n6 Tryz.prog laysGg6_ren := {
  mixed := by kernel_rfl
  f6 := Tryz.func47.trans (congrArg some (by kernel_rfl))
  f10 := Tryz.func68.trans (congrArg some (by kernel_rfl))
  f11 := Tryz.func69.trans (congrArg some (by kernel_rfl))
  f12 := Tryz.func70.trans (congrArg some (by kernel_rfl))
  f13 := Tryz.func71.trans (congrArg some (by kernel_rfl))
  f14 := Tryz.func72.trans (congrArg some (by kernel_rfl))
  f24 := Tryz.func93.trans (congrArg some (by kernel_rfl))
  f25 := Tryz.func94.trans (congrArg some (by kernel_rfl))
  f26 := Tryz.func95.trans (congrArg some (by kernel_rfl))
  f27 := Tryz.func96.trans (congrArg some (by kernel_rfl))
  f28 := Tryz.func97.trans (congrArg some (by kernel_rfl))
  f29 := Tryz.func98.trans (congrArg some (by kernel_rfl))
  f30 := Tryz.func99.trans (congrArg some (by kernel_rfl))
  f31 := Tryz.func100.trans (congrArg some (by kernel_rfl))
  f32 := Tryz.func101.trans (congrArg some (by kernel_rfl))
  f33 := Tryz.func102.trans (congrArg some (by kernel_rfl))
  f34 := Tryz.func109.trans (congrArg some (by kernel_rfl))
  f35 := Tryz.func110.trans (congrArg some (by kernel_rfl))
  f36 := Tryz.func111.trans (congrArg some (by kernel_rfl))
  f37 := Tryz.func112.trans (congrArg some (by kernel_rfl))
  f38 := Tryz.func113.trans (congrArg some (by kernel_rfl))
  f39 := Tryz.func118.trans (congrArg some (by kernel_rfl))
  t0 := Tryz.underlying0
  a0 := Tryz.isAgg0
  z0 := Tryz.sizeOf0
  v0 := Tryz.zeroValue0
  i0 := by kernel_rfl
  t3 := Tryz.underlying3
  a3 := Tryz.isAgg3
  z3 := Tryz.sizeOf3
  v3 := Tryz.zeroValue3
  i3 := by kernel_rfl
  t4 := Tryz.underlying4
  a4 := Tryz.isAgg4
  z4 := Tryz.sizeOf4
  v4 := Tryz.zeroValue4
  i4 := by kernel_rfl
  t5 := Tryz.underlying5
  a5 := Tryz.isAgg5
  z5 := Tryz.sizeOf5
  v5 := Tryz.zeroValue5
  i5 := by kernel_rfl
  t9 := Tryz.underlying9
  a9 := Tryz.isAgg9
  z9 := Tryz.sizeOf9
  v9 := Tryz.zeroValue9
  i9 := by kernel_rfl
  t12 := Tryz.underlying12
  a12 := Tryz.isAgg12
  z12 := Tryz.sizeOf12
  v12 := Tryz.zeroValue12
  i12 := by kernel_rfl
  t17 := Tryz.underlying17
  a17 := Tryz.isAgg17
  z17 := Tryz.sizeOf17
  v17 := Tryz.zeroValue17
  i17 := by kernel_rfl
  t20 := Tryz.underlying20
  a20 := Tryz.isAgg20
  z20 := Tryz.sizeOf20
  v20 := Tryz.zeroValue20
  i20 := by kernel_rfl
  t26 := Tryz.underlying87
  a26 := Tryz.isAgg87
  z26 := Tryz.sizeOf87
  v26 := Tryz.zeroValue87
  i26 := by kernel_rfl
  t32 := Tryz.underlying103
  a32 := Tryz.isAgg103
  z32 := Tryz.sizeOf103
  v32 := Tryz.zeroValue103
  i32 := by kernel_rfl
  t33 := Tryz.underlying104
  a33 := Tryz.isAgg104
  z33 := Tryz.sizeOf104
  v33 := Tryz.zeroValue104
  i33 := by kernel_rfl
  t35 := Tryz.underlying106
  a35 := Tryz.isAgg106
  z35 := Tryz.sizeOf106
  v35 := Tryz.zeroValue106
  i35 := by kernel_rfl
  t37 := Tryz.underlying108
  a37 := Tryz.isAgg108
  z37 := Tryz.sizeOf108
  v37 := Tryz.zeroValue108
  i37 := by kernel_rfl
  t41 := Tryz.underlying111
  a41 := Tryz.isAgg111
  z41 := Tryz.sizeOf111
  v41 := Tryz.zeroValue111
  i41 := by kernel_rfl
  t44 := Tryz.underlying114
  a44 := Tryz.isAgg114
  z44 := Tryz.sizeOf114
  v44 := Tryz.zeroValue114
  i44 := by kernel_rfl
  t49 := Tryz.underlying125
  a49 := Tryz.isAgg125
  z49 := Tryz.sizeOf125
  v49 := Tryz.zeroValue125
  i49 := by kernel_rfl
  t51 := Tryz.underlying127
  a51 := Tryz.isAgg127
  z51 := Tryz.sizeOf127
  v51 := Tryz.zeroValue127
  i51 := by kernel_rfl
  t53 := Tryz.underlying129
  a53 := Tryz.isAgg129
  z53 := Tryz.sizeOf129
  v53 := Tryz.zeroValue129
  i53 := by kernel_rfl
  t54 := Tryz.underlying130
  a54 := Tryz.isAgg130
  z54 := Tryz.sizeOf130
  v54 := Tryz.zeroValue130
  i54 := by kernel_rfl
  t58 := Tryz.underlying78
  a58 := Tryz.isAgg78
  z58 := Tryz.sizeOf78
  v58 := Tryz.zeroValue78
  i58 := by kernel_rfl
  t60 := Tryz.underlying138
  a60 := Tryz.isAgg138
  z60 := Tryz.sizeOf138
  v60 := Tryz.zeroValue138
  i60 := by kernel_rfl
  t64 := Tryz.underlying142
  a64 := Tryz.isAgg142
  z64 := Tryz.sizeOf142
  v64 := Tryz.zeroValue142
  i64 := by kernel_rfl
  t66 := Tryz.underlying146
  a66 := Tryz.isAgg146
  z66 := Tryz.sizeOf146
  v66 := Tryz.zeroValue146
  i66 := by kernel_rfl
  t67 := Tryz.underlying147
  a67 := Tryz.isAgg147
  z67 := Tryz.sizeOf147
  v67 := Tryz.zeroValue147
  i67 := by kernel_rfl
  t75 := Tryz.underlying157
  a75 := Tryz.isAgg157
  z75 := Tryz.sizeOf157
  v75 := Tryz.zeroValue157
  i75 := by kernel_rfl
  t76 := Tryz.underlying158
  a76 := Tryz.isAgg158
  z76 := Tryz.sizeOf158
  v76 := Tryz.zeroValue158
  i76 := by kernel_rfl
  t77 := Tryz.underlying159
  a77 := Tryz.isAgg159
  z77 := Tryz.sizeOf159
  v77 := Tryz.zeroValue159
  i77 := by kernel_rfl
  t78 := Tryz.underlying160
  a78 := Tryz.isAgg160
  z78 := Tryz.sizeOf160
  v78 := Tryz.zeroValue160
  i78 := by kernel_rfl
  t79 := Tryz.underlying161
  a79 := Tryz.isAgg161
  z79 := Tryz.sizeOf161
  v79 := Tryz.zeroValue161
  i79 := by kernel_rfl
  t80 := Tryz.underlying162
  a80 := Tryz.isAgg162
  z80 := Tryz.sizeOf162
  v80 := Tryz.zeroValue162
  i80 := by kernel_rfl
  t82 := Tryz.underlying164
  a82 := Tryz.isAgg164
  z82 := Tryz.sizeOf164
  v82 := Tryz.zeroValue164
  i82 := by kernel_rfl }
set_option maxHeartbeats 8000000 in
theorem C99 {u : Value} {d : Array Piece} {a b : Nat} (h0 : 0 < d.size) (hab : a ≤ b) (hb : b ≤ d.size) (hl : d.size ≤ 1000) : Fn Tryz.prog 99 [srt u d] [.agg (dataW u), .v (.int .i64 a), .v (.int .i64 b)] [] [srt u (Go.Sort.reverseRange d a b)] :=
  Fn.ofK h0 (Go.Sort.reverseRange_holds d a b hab hb).1 fun w blk c lb hu hH hblk => Any.reverseRange_func_cells_w { laysGg6 with } encP 5 (fun _ => rfl) (.func 48) #[] lb 92 _ blk 0 a b d w (swp71 blk d.size c) hH hblk hab hb (by omega)
set_option maxHeartbeats 8000000 in
theorem C97 {u : Value} {d : Array Piece} {a b : Nat} (h0 : 0 < d.size) (hab : a ≤ b) (hb : b ≤ d.size) (hl : d.size ≤ 1000) : Fn Tryz.prog 97 [srt u d] [.agg (dataW u), .v (.int .i64 a), .v (.int .i64 b)] [] [srt u (Go.Sort.breakPatterns d a b)] :=
  Fn.ofK h0 (Go.Sort.breakPatterns_holds d a b hab hb).1 fun w blk c lb hu hH hblk => Any.breakPatterns_func_cells_w { laysGg6 with } encP 5 (fun _ => rfl) (.func 48) #[] lb 92 _ blk 0 a b d w (swp71 blk d.size c) hH hblk hab hb (by omega)
end Go.Proofs.YtmdohphcolffmaaGreat
namespace Go.Proofs.YtmdohphcolffmaaGreat
open Go.RowKit
set_option linter.unusedSimpArgs false
set_option linter.unusedVariables false
set_option maxRecDepth 100000
set_option maxHeartbeats 8000000 in
theorem C118 {u : Value} {d : Array Piece} {a b s : Nat} (ha : a < d.size) (hb : b < d.size) (hl : d.size ≤ 1000) (hs : s ≤ 1000) : Fn Tryz.prog 118 [.own 3 [[.v (.int .i64 s)]]] [.agg (dataR d u), .v (.int .i64 a), .v (.int .i64 b), .ptr 0 0 0 0] [.v (.int .i64 (Go.Sort.order2 befB d a b s).1), .v (.int .i64 (Go.Sort.order2 befB d a b s).2.1)] [.own 3 [[.v (.int .i64 (Go.Sort.order2 befB d a b s).2.2)]]] := by
  refine Spec.body Tryz.func118 rfl Tryz.ntmps118 (by simp) rfl ?_; intro S0 own0 v0 w0
  (refine AW.seq_k ?_; intro K hK)
  refine AW.region ?_
  refine awJ (op_box rfl rfl rfl sz114 rfl) ?_; (simp only [nA, Nat.reduceBEq, Nat.reduceEqDiff, ↓reduceIte])
  refine awP (op_assign rfl rfl) ?_; (try simp only [nA, Nat.reduceBEq, Nat.reduceEqDiff, ↓reduceIte, Nat.reduceAdd, Nat.reduceSub])
  refine awP (op_assign rfl rfl) ?_; (try simp only [nA, Nat.reduceBEq, Nat.reduceEqDiff, ↓reduceIte, Nat.reduceAdd, Nat.reduceSub])
  refine AWL.nil ?_
  (refine hK _ ?_; clear hK K; (try simp only [nA, Nat.reduceBEq, Nat.reduceEqDiff, ↓reduceIte, Nat.reduceAdd, Nat.reduceSub]))
  (refine AW.seq_k ?_; intro K hK)
  (refine AW.seq_k ?_; intro K hK)
  refine AW.region ?_
  (refine awP (op_fa_ptr rfl rfl rfl fl114_0 (by exact sz2) (by decide) rfl) ?_); (try simp only [nA, Nat.reduceBEq, Nat.reduceEqDiff, ↓reduceIte, Nat.reduceAdd, Nat.reduceSub])
  (refine awR (op_load_ptr1 rfl rfl rfl rfl ag87 rfl rfl) ?_); (try simp only [nA, Nat.reduceBEq, Nat.reduceEqDiff, ↓reduceIte, Nat.reduceAdd, Nat.reduceSub])
  refine awP (op_move rfl rfl) ?_; (simp only [nA, ↓reduceIte])
  refine awP (op_move rfl rfl) ?_; (simp only [nA, ↓reduceIte])
  refine awJ (OpQ.j (op_ltR (d := d) rfl rfl rfl rfl hl (by omega) (by omega))) ?_; (try simp only [nA, Nat.reduceBEq, Nat.reduceEqDiff, ↓reduceIte, Nat.reduceAdd, Nat.reduceSub])
  refine AWL.nil ?_
  (refine hK _ ?_; clear hK K; (skip))
  refine AW.cond rfl rfl rfl (fun hc => ?_) (fun hc => ?_)
  ·
   (try simp only [hcS] at hc); have hc1 := hc; simp only [Int.toNat_natCast] at hc
   (refine AW.seq_k ?_; intro K hK)
   refine AW.region ?_
   refine awP (op_move rfl rfl) ?_; (simp only [nA, ↓reduceIte])
   (refine awP (op_nil_slot rfl rfl rfl) ?_); (try simp only [nA, Nat.reduceBEq, Nat.reduceEqDiff, ↓reduceIte, Nat.reduceAdd, Nat.reduceSub])
   (refine awR (op_load_ptr1 rfl rfl rfl rfl ag3 rfl rfl) ?_); (try simp only [nA, Nat.reduceBEq, Nat.reduceEqDiff, ↓reduceIte, Nat.reduceAdd, Nat.reduceSub])
   (refine awP (op_addi rfl rfl rfl (by omega)) ?_); (try simp only [nA, Nat.reduceBEq, Nat.reduceEqDiff, ↓reduceIte, Nat.reduceAdd, Nat.reduceSub])
   (refine awP (op_nil_slot rfl rfl rfl) ?_); (try simp only [nA, Nat.reduceBEq, Nat.reduceEqDiff, ↓reduceIte, Nat.reduceAdd, Nat.reduceSub])
   refine awJ (op_store rfl rfl rfl rfl rfl rfl sz3 rfl (bl rfl) rfl) ?_; (simp only [nA, ↓reduceIte])
   refine AWL.nil ?_
   (refine hK _ ?_; clear hK K; (skip))
   (refine AW.seq_k ?_; intro K hK)
   refine AW.region ?_
   refine awP (op_move rfl rfl) ?_; (simp only [nA, ↓reduceIte])
   refine awP (op_move rfl rfl) ?_; (simp only [nA, ↓reduceIte])
   refine awP (op_assign rfl rfl) ?_; (simp only [nA, ↓reduceIte])
   refine awP (op_assign rfl rfl) ?_; (simp only [nA, ↓reduceIte])
   refine AWL.nil ?_
   (refine hK _ ?_; clear hK K; (skip))
   skip
   refine AW.ret ?_; (try simp only [thenE, inBlk, Nat.reduceEqDiff, ↓reduceIte]); rw [show Go.Sort.order2 befB d a b s = (b, a, s + 1) by unfold Go.Sort.order2; rw [if_pos hc]]; exact RQ.of (.inl rfl) rfl (.tmp (bl rfl) rfl rfl (.tmp (bl rfl) rfl rfl .nil)) (by simp) rfl (one_out rfl)
  (try simp only [hcS] at hc); have hc1 := hc; simp only [Int.toNat_natCast] at hc
  refine AW.skip ?_
  (refine hK _ ?_; clear hK K; (skip))
  (refine AW.seq_k ?_; intro K hK)
  refine AW.region ?_
  refine awP (op_move rfl rfl) ?_; (simp only [nA, ↓reduceIte])
  refine awP (op_move rfl rfl) ?_; (simp only [nA, ↓reduceIte])
  refine awP (op_assign rfl rfl) ?_; (simp only [nA, ↓reduceIte])
  refine awP (op_assign rfl rfl) ?_; (simp only [nA, ↓reduceIte])
  refine AWL.nil ?_
  (refine hK _ ?_; clear hK K; (skip))
  skip
  refine AW.ret ?_; (try simp only [thenE, inBlk, Nat.reduceEqDiff, ↓reduceIte]); rw [show Go.Sort.order2 befB d a b s = (a, b, s) by unfold Go.Sort.order2; rw [if_neg (by rw [hc]; decide)]]; exact RQ.of (.inl rfl) rfl (.tmp (bl rfl) rfl rfl (.tmp (bl rfl) rfl rfl .nil)) (by simp) rfl (one_out rfl)
theorem o2b {lt : Piece → Piece → Bool} {d : Array Piece} {a b s n : Nat} (ha : a < n) (hb : b < n) : (Go.Sort.order2 lt d a b s).1 < n ∧ (Go.Sort.order2 lt d a b s).2.1 < n ∧ (Go.Sort.order2 lt d a b s).2.2 ≤ s + 1 := by
  unfold Go.Sort.order2
  split
  · exact ⟨hb, ha, Nat.le_refl _⟩
  exact ⟨ha, hb, Nat.le_succ _⟩
theorem en118 : Enters Tryz.prog 118 := enters_of Tryz.func118 (by kernel_rfl) rfl
set_option maxHeartbeats 8000000 in
theorem C113 {u : Value} {d : Array Piece} {a b c s : Nat} (ha : a < d.size) (hb : b < d.size) (hc : c < d.size) (hl : d.size ≤ 1000) (hs : s ≤ 100) : Fn Tryz.prog 113 [.own 3 [[.v (.int .i64 s)]]] [.agg (dataR d u), .v (.int .i64 a), .v (.int .i64 b), .v (.int .i64 c), .ptr 0 0 0 0] [.v (.int .i64 (Go.Sort.median befB d a b c s).1)] [.own 3 [[.v (.int .i64 (Go.Sort.median befB d a b c s).2)]]] := by
  have h1 := o2b (lt := befB) (d := d) (s := s) ha hb
  have h2 := o2b (lt := befB) (d := d) (s := (Go.Sort.order2 befB d a b s).2.2) h1.2.1 hc
  refine Spec.body Tryz.func113 rfl Tryz.ntmps113 (by simp) rfl ?_; intro S0 own0 v0 w0
  (refine AW.seq_k ?_; intro K hK)
  refine AW.region ?_
  refine awJ (op_box rfl rfl rfl sz114 rfl) ?_; (simp only [nA, Nat.reduceBEq, Nat.reduceEqDiff, ↓reduceIte])
  refine awP (op_assign rfl rfl) ?_; (try simp only [nA, Nat.reduceBEq, Nat.reduceEqDiff, ↓reduceIte, Nat.reduceAdd, Nat.reduceSub])
  refine AWL.nil ?_
  (refine hK _ ?_; clear hK K; (try simp only [nA, Nat.reduceBEq, Nat.reduceEqDiff, ↓reduceIte, Nat.reduceAdd, Nat.reduceSub]))
  (refine AW.seq_k ?_; intro K hK)
  refine AW.region ?_
  (refine awR (op_load_ptr rfl rfl rfl rfl ag114 sz114 (bl rfl) rfl) ?_); (try simp only [nA, Nat.reduceBEq, Nat.reduceEqDiff, ↓reduceIte, Nat.reduceAdd, Nat.reduceSub])
  refine awP (op_move rfl rfl) ?_; (simp only [nA, ↓reduceIte])
  refine awP (op_move rfl rfl) ?_; (simp only [nA, ↓reduceIte])
  refine awP (op_move rfl rfl) ?_; (simp only [nA, ↓reduceIte])
  refine awJ (op_call1 (r := 0) rfl en118 (C118 (u := u) (s := s) ha hb hl (by omega)) (by exact rfl) (RL.cons (.base (.same (by exact rfl))) (RL.cons (.base (.same (by exact rfl))) (RL.cons (.base (.same (by exact rfl))) (RL.cons .ptr RL.nil)))) (by exact ⟨_, _, _, rfl, rfl, rfl⟩) (by exact rfl) (by exact rfl) (by exact rfl)) ?_; (try simp only [nA, Nat.reduceBEq, Nat.reduceEqDiff, ↓reduceIte, Nat.reduceAdd, Nat.reduceSub])
  refine awP (op_move rfl rfl) ?_; (simp only [nA])
  refine awP (op_extract rfl rfl rfl) ?_; (try simp only [nA, Nat.reduceBEq, Nat.reduceEqDiff, ↓reduceIte, Nat.reduceAdd, Nat.reduceSub])
  refine awP (op_extract rfl rfl rfl) ?_; (try simp only [nA, Nat.reduceBEq, Nat.reduceEqDiff, ↓reduceIte, Nat.reduceAdd, Nat.reduceSub])
  refine awP (op_assign rfl rfl) ?_; (simp only [nA, ↓reduceIte])
  refine awP (op_assign rfl rfl) ?_; (simp only [nA, ↓reduceIte])
  refine AWL.nil ?_
  (refine hK _ ?_; clear hK K; (skip))
  (refine AW.seq_k ?_; intro K hK)
  refine AW.region ?_
  (refine awR (op_load_ptr rfl rfl rfl rfl ag114 sz114 (bl rfl) rfl) ?_); (try simp only [nA, Nat.reduceBEq, Nat.reduceEqDiff, ↓reduceIte, Nat.reduceAdd, Nat.reduceSub])
  refine awP (op_move rfl rfl) ?_; (simp only [nA, ↓reduceIte])
  refine awP (op_move rfl rfl) ?_; (simp only [nA, ↓reduceIte])
  refine awP (op_move rfl rfl) ?_; (simp only [nA, ↓reduceIte])
  refine awJ (op_call1 (r := 0) rfl en118 (C118 (u := u) (s := (Go.Sort.order2 befB d a b s).2.2) h1.2.1 hc hl (by omega)) (by exact rfl) (RL.cons (.base (.same (by exact rfl))) (RL.cons (.base (.same (by exact rfl))) (RL.cons (.base (.same (by exact rfl))) (RL.cons .ptr RL.nil)))) (by exact ⟨_, _, _, rfl, rfl, rfl⟩) (by exact rfl) (by exact rfl) (by exact rfl)) ?_; (try simp only [nA, Nat.reduceBEq, Nat.reduceEqDiff, ↓reduceIte, Nat.reduceAdd, Nat.reduceSub])
  refine awP (op_move rfl rfl) ?_; (simp only [nA])
  refine awP (op_extract rfl rfl rfl) ?_; (try simp only [nA, Nat.reduceBEq, Nat.reduceEqDiff, ↓reduceIte, Nat.reduceAdd, Nat.reduceSub])
  refine awP (op_extract rfl rfl rfl) ?_; (try simp only [nA, Nat.reduceBEq, Nat.reduceEqDiff, ↓reduceIte, Nat.reduceAdd, Nat.reduceSub])
  refine awP (op_assign rfl rfl) ?_; (simp only [nA, ↓reduceIte])
  refine awP (op_assign rfl rfl) ?_; (simp only [nA, ↓reduceIte])
  refine AWL.nil ?_
  (refine hK _ ?_; clear hK K; (skip))
  (refine AW.seq_k ?_; intro K hK)
  refine AW.region ?_
  (refine awR (op_load_ptr rfl rfl rfl rfl ag114 sz114 (bl rfl) rfl) ?_); (try simp only [nA, Nat.reduceBEq, Nat.reduceEqDiff, ↓reduceIte, Nat.reduceAdd, Nat.reduceSub])
  refine awP (op_move rfl rfl) ?_; (simp only [nA, ↓reduceIte])
  refine awP (op_move rfl rfl) ?_; (simp only [nA, ↓reduceIte])
  refine awP (op_move rfl rfl) ?_; (simp only [nA, ↓reduceIte])
  refine awJ (op_call1 (r := 0) rfl en118 (C118 (u := u) (s := (Go.Sort.order2 befB d (Go.Sort.order2 befB d a b s).2.1 c (Go.Sort.order2 befB d a b s).2.2).2.2) h1.1 h2.1 hl (by omega)) (by exact rfl) (RL.cons (.base (.same (by exact rfl))) (RL.cons (.base (.same (by exact rfl))) (RL.cons (.base (.same (by exact rfl))) (RL.cons .ptr RL.nil)))) (by exact ⟨_, _, _, rfl, rfl, rfl⟩) (by exact rfl) (by exact rfl) (by exact rfl)) ?_; (try simp only [nA, Nat.reduceBEq, Nat.reduceEqDiff, ↓reduceIte, Nat.reduceAdd, Nat.reduceSub])
  refine awP (op_move rfl rfl) ?_; (simp only [nA])
  refine awP (op_extract rfl rfl rfl) ?_; (try simp only [nA, Nat.reduceBEq, Nat.reduceEqDiff, ↓reduceIte, Nat.reduceAdd, Nat.reduceSub])
  refine awP (op_extract rfl rfl rfl) ?_; (try simp only [nA, Nat.reduceBEq, Nat.reduceEqDiff, ↓reduceIte, Nat.reduceAdd, Nat.reduceSub])
  refine awP (op_assign rfl rfl) ?_; (simp only [nA, ↓reduceIte])
  refine awP (op_assign rfl rfl) ?_; (simp only [nA, ↓reduceIte])
  refine AWL.nil ?_
  (refine hK _ ?_; clear hK K; (skip))
  (refine AW.seq_k ?_; intro K hK)
  refine AW.region ?_
  refine awP (op_move rfl rfl) ?_; (simp only [nA])
  refine awP (op_assign rfl rfl) ?_; (simp only [nA])
  refine AWL.nil ?_
  (refine hK _ ?_; clear hK K; (skip))
  skip
  refine AW.ret ?_; (try simp only [thenE, inBlk, Nat.reduceEqDiff, ↓reduceIte]); exact RQ.of (.inl rfl) rfl (.tmp (bl rfl) rfl rfl .nil) (by simp) rfl (one_out rfl)
end Go.Proofs.YtmdohphcolffmaaGreat
namespace Go.Proofs.YtmdohphcolffmaaGreat
open Go.RowKit
set_option linter.unusedSimpArgs false
set_option linter.unusedVariables false
set_option maxRecDepth 100000
set_option maxHeartbeats 8000000 in
theorem C113i {u : Value} {d : Array Piece} {x y z : Int} (a b c s : Nat) (e1 : x = a) (e2 : y = b) (e3 : z = c) (ha : a < d.size) (hb : b < d.size) (hc : c < d.size) (hl : d.size ≤ 1000) (hs : s ≤ 100) : Fn Tryz.prog 113 [.own 3 [[.v (.int .i64 s)]]] [.agg (dataR d u), .v (.int .i64 x), .v (.int .i64 y), .v (.int .i64 z), .ptr 0 0 0 0] [.v (.int .i64 (Go.Sort.median befB d a b c s).1)] [.own 3 [[.v (.int .i64 (Go.Sort.median befB d a b c s).2)]]] := by
  subst e1 e2 e3; exact C113 ha hb hc hl hs
theorem en113 : Enters Tryz.prog 113 := enters_of Tryz.func113 (by kernel_rfl) rfl
def hintI : Go.Sort.Hint → Int
  | .unknown => 0
  | .increasing => 1
  | .decreasing => 2
theorem medb {lt : Piece → Piece → Bool} {d : Array Piece} {a b c s n : Nat} (ha : a < n) (hb : b < n) (hc : c < n) : (Go.Sort.median lt d a b c s).1 < n ∧ (Go.Sort.median lt d a b c s).2 ≤ s + 3 := by
  have h1 := o2b (lt := lt) (d := d) (s := s) ha hb
  have h2 := o2b (lt := lt) (d := d) (s := (Go.Sort.order2 lt d a b s).2.2) h1.2.1 hc
  have h3 := o2b (lt := lt) (d := d) (s := (Go.Sort.order2 lt d (Go.Sort.order2 lt d a b s).2.1 c (Go.Sort.order2 lt d a b s).2.2).2.2) h1.1 h2.1
  unfold Go.Sort.median
  exact ⟨h3.2.1, by dsimp only; omega⟩
/-- The three places among which the middle one is chosen, and the swaps so far. -/
def nR (lt : Piece → Piece → Bool) (d : Array Piece) (a b : Nat) : Nat × Nat × Nat × Nat :=
  if b - a ≥ 50 then
    ((Go.Sort.medianAdjacent lt d (a + (b - a) / 4 * 1) 0).1,
     (Go.Sort.medianAdjacent lt d (a + (b - a) / 4 * 2) (Go.Sort.medianAdjacent lt d (a + (b - a) / 4 * 1) 0).2).1,
     (Go.Sort.medianAdjacent lt d (a + (b - a) / 4 * 3) (Go.Sort.medianAdjacent lt d (a + (b - a) / 4 * 2) (Go.Sort.medianAdjacent lt d (a + (b - a) / 4 * 1) 0).2).2).1,
     (Go.Sort.medianAdjacent lt d (a + (b - a) / 4 * 3) (Go.Sort.medianAdjacent lt d (a + (b - a) / 4 * 2) (Go.Sort.medianAdjacent lt d (a + (b - a) / 4 * 1) 0).2).2).2)
  else (a + (b - a) / 4 * 1, a + (b - a) / 4 * 2, a + (b - a) / 4 * 3, 0)
theorem nR_pos {lt : Piece → Piece → Bool} {d : Array Piece} {a b : Nat} (h : b - a ≥ 50) : nR lt d a b = ((Go.Sort.medianAdjacent lt d (a + (b - a) / 4 * 1) 0).1,
     (Go.Sort.medianAdjacent lt d (a + (b - a) / 4 * 2) (Go.Sort.medianAdjacent lt d (a + (b - a) / 4 * 1) 0).2).1,
     (Go.Sort.medianAdjacent lt d (a + (b - a) / 4 * 3) (Go.Sort.medianAdjacent lt d (a + (b - a) / 4 * 2) (Go.Sort.medianAdjacent lt d (a + (b - a) / 4 * 1) 0).2).2).1,
     (Go.Sort.medianAdjacent lt d (a + (b - a) / 4 * 3) (Go.Sort.medianAdjacent lt d (a + (b - a) / 4 * 2) (Go.Sort.medianAdjacent lt d (a + (b - a) / 4 * 1) 0).2).2).2) := by unfold nR; rw [if_pos h]
theorem nR_neg {lt : Piece → Piece → Bool} {d : Array Piece} {a b : Nat} (h : ¬ b - a ≥ 50) : nR lt d a b = (a + (b - a) / 4 * 1, a + (b - a) / 4 * 2, a + (b - a) / 4 * 3, 0) := by unfold nR; rw [if_neg h]
theorem mab {lt : Piece → Piece → Bool} {d : Array Piece} {a s n : Nat} (h : a + 1 < n) : (Go.Sort.medianAdjacent lt d a s).1 < n ∧ (Go.Sort.medianAdjacent lt d a s).2 ≤ s + 3 := medb (by omega) (by omega) h
theorem nR_bd {lt : Piece → Piece → Bool} {d : Array Piece} {a b : Nat} (h8 : 8 ≤ b - a) (hb : b ≤ d.size) : (nR lt d a b).1 < d.size ∧ (nR lt d a b).2.1 < d.size ∧ (nR lt d a b).2.2.1 < d.size ∧ (nR lt d a b).2.2.2 ≤ 9 := by
  by_cases h : b - a ≥ 50
  · rw [nR_pos h]
    have h1 := mab (lt := lt) (d := d) (a := a + (b - a) / 4 * 1) (s := 0) (n := d.size) (by omega)
    have h2 := mab (lt := lt) (d := d) (a := a + (b - a) / 4 * 2) (s := (Go.Sort.medianAdjacent lt d (a + (b - a) / 4 * 1) 0).2) (n := d.size) (by omega)
    have h3 := mab (lt := lt) (d := d) (a := a + (b - a) / 4 * 3) (s := (Go.Sort.medianAdjacent lt d (a + (b - a) / 4 * 2) (Go.Sort.medianAdjacent lt d (a + (b - a) / 4 * 1) 0).2).2) (n := d.size) (by omega)
    refine ⟨h1.1, h2.1, h3.1, ?_⟩
    dsimp only
    omega
  rw [nR_neg h]
  refine ⟨?_, ?_, ?_, ?_⟩ <;> dsimp only <;> omega
theorem chooseP {lt : Piece → Piece → Bool} {d : Array Piece} {a b : Nat} (h8 : 8 ≤ b - a) : Go.Sort.choosePivot lt d a b = ((Go.Sort.median lt d (nR lt d a b).1 (nR lt d a b).2.1 (nR lt d a b).2.2.1 (nR lt d a b).2.2.2).1, if (Go.Sort.median lt d (nR lt d a b).1 (nR lt d a b).2.1 (nR lt d a b).2.2.1 (nR lt d a b).2.2.2).2 = 0 then .increasing else if (Go.Sort.median lt d (nR lt d a b).1 (nR lt d a b).2.1 (nR lt d a b).2.2.1 (nR lt d a b).2.2.2).2 = 12 then .decreasing else .unknown) := by
  unfold Go.Sort.choosePivot
  by_cases h : b - a ≥ 50
  · rw [nR_pos h]
    simp only [ge_iff_le, if_pos h8, if_pos (show 50 ≤ b - a from h)]
  rw [nR_neg h]
  simp only [ge_iff_le, if_pos h8, if_neg (show ¬ 50 ≤ b - a from h)]
theorem en112 : Enters Tryz.prog 112 := enters_of Tryz.func112 (by kernel_rfl) rfl
set_option maxHeartbeats 8000000 in
theorem C112 {u : Value} {d : Array Piece} {a s : Nat} (h1 : 1 ≤ a) (h2 : a + 1 < d.size) (hl : d.size ≤ 1000) (hs : s ≤ 100) : Fn Tryz.prog 112 [.own 3 [[.v (.int .i64 s)]]] [.agg (dataR d u), .v (.int .i64 a), .ptr 0 0 0 0] [.v (.int .i64 (Go.Sort.medianAdjacent befB d a s).1)] [.own 3 [[.v (.int .i64 (Go.Sort.medianAdjacent befB d a s).2)]]] := by
  unfold Go.Sort.medianAdjacent
  refine Spec.body Tryz.func112 rfl Tryz.ntmps112 (by simp) rfl ?_; intro S0 own0 v0 w0
  (refine AW.seq_k ?_; intro K hK)
  refine AW.region ?_
  refine awJ (op_box rfl rfl rfl sz114 rfl) ?_; (simp only [nA, Nat.reduceBEq, Nat.reduceEqDiff, ↓reduceIte])
  refine awP (op_assign rfl rfl) ?_; (try simp only [nA, Nat.reduceBEq, Nat.reduceEqDiff, ↓reduceIte, Nat.reduceAdd, Nat.reduceSub])
  refine AWL.nil ?_
  (refine hK _ ?_; clear hK K; (try simp only [nA, Nat.reduceBEq, Nat.reduceEqDiff, ↓reduceIte, Nat.reduceAdd, Nat.reduceSub]))
  (refine AW.seq_k ?_; intro K hK)
  refine AW.region ?_
  (refine awR (op_load_ptr rfl rfl rfl rfl ag114 sz114 (bl rfl) rfl) ?_); (try simp only [nA, Nat.reduceBEq, Nat.reduceEqDiff, ↓reduceIte, Nat.reduceAdd, Nat.reduceSub])
  refine awP (op_move rfl rfl) ?_; (simp only [nA, ↓reduceIte])
  (refine awP (op_subi rfl rfl rfl (by omega)) ?_); (try simp only [nA, Nat.reduceBEq, Nat.reduceEqDiff, ↓reduceIte, Nat.reduceAdd, Nat.reduceSub])
  refine awP (op_move rfl rfl) ?_; (simp only [nA, ↓reduceIte])
  refine awP (op_move rfl rfl) ?_; (simp only [nA, ↓reduceIte])
  (refine awP (op_addi rfl rfl rfl (by omega)) ?_); (try simp only [nA, Nat.reduceBEq, Nat.reduceEqDiff, ↓reduceIte, Nat.reduceAdd, Nat.reduceSub])
  refine awP (op_move rfl rfl) ?_; (simp only [nA, ↓reduceIte])
  refine awJ (op_call1 (r := 0) rfl en113 (C113i (u := u) (d := d) (a - 1) a (a + 1) s (by omega) rfl (by omega) (by omega) (by omega) h2 hl hs) (by exact rfl) (RL.cons (.base (.same (by exact rfl))) (RL.cons (.base (.same (by exact rfl))) (RL.cons (.base (.same (by exact rfl))) (RL.cons (.base (.same (by exact rfl))) (RL.cons .ptr RL.nil))))) (by exact ⟨_, _, _, rfl, rfl, rfl⟩) (by exact rfl) (by exact rfl) (by exact rfl)) ?_; (try simp only [nA, Nat.reduceBEq, Nat.reduceEqDiff, ↓reduceIte, Nat.reduceAdd, Nat.reduceSub])
  refine awP (op_assign rfl rfl) ?_; (simp only [nA])
  refine AWL.nil ?_
  (refine hK _ ?_; clear hK K; (skip))
  skip
  refine AW.ret ?_; (try simp only [thenE, inBlk, Nat.reduceEqDiff, ↓reduceIte]); exact RQ.of (.inl rfl) rfl (.tmp (bl rfl) rfl rfl .nil) (by simp) rfl (one_out rfl)
set_option maxHeartbeats 8000000 in
theorem C112i {u : Value} {d : Array Piece} {x : Int} (a s : Nat) (e : x = a) (h1 : 1 ≤ a) (h2 : a + 1 < d.size) (hl : d.size ≤ 1000) (hs : s ≤ 100) : Fn Tryz.prog 112 [.own 3 [[.v (.int .i64 s)]]] [.agg (dataR d u), .v (.int .i64 x), .ptr 0 0 0 0] [.v (.int .i64 (Go.Sort.medianAdjacent befB d a s).1)] [.own 3 [[.v (.int .i64 (Go.Sort.medianAdjacent befB d a s).2)]]] := by
  subst e; exact C112 h1 h2 hl hs
theorem nine {u : Value} {d : Array Piece} {a b : Nat} (h50 : b - a ≥ 50) (hb : b ≤ d.size) (hl : d.size ≤ 1000) : ∃ r1 r2 r3 : Nat × Nat,
    (∀ x : Int, x = ((a + (b - a) / 4 * 1 : Nat) : Int) → Fn Tryz.prog 112 [.own 3 [[.v (.int .i64 ((0 : Nat) : Int))]]] [.agg (dataR d u), .v (.int .i64 x), .ptr 0 0 0 0] [.v (.int .i64 r1.1)] [.own 3 [[.v (.int .i64 r1.2)]]]) ∧
    (∀ x : Int, x = ((a + (b - a) / 4 * 2 : Nat) : Int) → Fn Tryz.prog 112 [.own 3 [[.v (.int .i64 r1.2)]]] [.agg (dataR d u), .v (.int .i64 x), .ptr 0 0 0 0] [.v (.int .i64 r2.1)] [.own 3 [[.v (.int .i64 r2.2)]]]) ∧
    (∀ x : Int, x = ((a + (b - a) / 4 * 3 : Nat) : Int) → Fn Tryz.prog 112 [.own 3 [[.v (.int .i64 r2.2)]]] [.agg (dataR d u), .v (.int .i64 x), .ptr 0 0 0 0] [.v (.int .i64 r3.1)] [.own 3 [[.v (.int .i64 r3.2)]]]) ∧ nR befB d a b = (r1.1, r2.1, r3.1, r3.2) := by
  have b1 : 1 ≤ a + (b - a) / 4 * 1 ∧ a + (b - a) / 4 * 1 + 1 < d.size := by omega
  have b2 : 1 ≤ a + (b - a) / 4 * 2 ∧ a + (b - a) / 4 * 2 + 1 < d.size := by omega
  have b3 : 1 ≤ a + (b - a) / 4 * 3 ∧ a + (b - a) / 4 * 3 + 1 < d.size := by omega
  have hN := nR_pos (lt := befB) (d := d) h50
  generalize a + (b - a) / 4 * 1 = i1 at *
  generalize a + (b - a) / 4 * 2 = i2 at *
  generalize a + (b - a) / 4 * 3 = i3 at *
  have q1 := mab (lt := befB) (d := d) (s := 0) b1.2
  have k1 := fun (x : Int) (hx : x = (i1 : Nat)) => C112i (u := u) (d := d) i1 0 hx b1.1 b1.2 hl (by omega)
  generalize Go.Sort.medianAdjacent befB d i1 0 = r1 at *
  have q2 := mab (lt := befB) (d := d) (s := r1.2) b2.2
  have k2 := fun (x : Int) (hx : x = (i2 : Nat)) => C112i (u := u) (d := d) i2 r1.2 hx b2.1 b2.2 hl (by omega)
  generalize Go.Sort.medianAdjacent befB d i2 r1.2 = r2 at *
  have k3 := fun (x : Int) (hx : x = (i3 : Nat)) => C112i (u := u) (d := d) i3 r2.2 hx b3.1 b3.2 hl (by omega)
  generalize Go.Sort.medianAdjacent befB d i3 r2.2 = r3 at *
  exact ⟨r1, r2, r3, k1, k2, k3, hN⟩
set_option maxHeartbeats 8000000 in
theorem C98 {u : Value} {d : Array Piece} {a b : Nat} (h8 : 8 ≤ b - a) (hb : b ≤ d.size) (hl : d.size ≤ 1000) : Fn Tryz.prog 98 [] [.agg (dataR d u), .v (.int .i64 a), .v (.int .i64 b)] [.v (.int .i64 (Go.Sort.choosePivot befB d a b).1), .v (.int .i64 (hintI (Go.Sort.choosePivot befB d a b).2))] [] := by
  refine Spec.body Tryz.func98 rfl Tryz.ntmps98 (by simp) rfl ?_; intro S0 own0 v0 w0
  (refine AW.seq_k ?_; intro K hK)
  refine AW.region ?_
  refine awJ (op_box rfl rfl rfl sz114 rfl) ?_; (simp only [nA, Nat.reduceBEq, Nat.reduceEqDiff, ↓reduceIte])
  refine awP (op_assign rfl rfl) ?_; (try simp only [nA, Nat.reduceBEq, Nat.reduceEqDiff, ↓reduceIte, Nat.reduceAdd, Nat.reduceSub])
  refine awP (op_assign rfl rfl) ?_; (try simp only [nA, Nat.reduceBEq, Nat.reduceEqDiff, ↓reduceIte, Nat.reduceAdd, Nat.reduceSub])
  refine AWL.nil ?_
  (refine hK _ ?_; clear hK K; (try simp only [nA, Nat.reduceBEq, Nat.reduceEqDiff, ↓reduceIte, Nat.reduceAdd, Nat.reduceSub]))
  (refine AW.seq_k ?_; intro K hK)
  refine AW.region ?_
  refine awP (op_move rfl rfl) ?_; (simp only [nA, ↓reduceIte])
  refine awP (op_move rfl rfl) ?_; (simp only [nA, ↓reduceIte])
  (refine awP (op_subi rfl rfl rfl (by omega)) ?_); (try simp only [nA, Nat.reduceBEq, Nat.reduceEqDiff, ↓reduceIte, Nat.reduceAdd, Nat.reduceSub])
  refine awP (op_assign rfl rfl) ?_; (simp only [nA])
  refine AWL.nil ?_
  (refine hK _ ?_; clear hK K; (skip))
  (refine AW.seq_k ?_; intro K hK)
  refine AW.region ?_
  refine awJ (op_alloc rfl ze3 rfl) ?_; (simp only [nA, Nat.reduceBEq, Nat.reduceEqDiff, ↓reduceIte])
  refine AWL.nil ?_
  (refine hK _ ?_; clear hK K; (skip))
  (refine AW.seq_k ?_; intro K hK)
  refine AW.region ?_
  refine awP (op_move rfl rfl) ?_; (simp only [nA, ↓reduceIte])
  refine awP (op_move rfl rfl) ?_; (simp only [nA, ↓reduceIte])
  (refine awP (op_quoi rfl rfl rfl (by omega)) ?_); (try simp only [nA, Nat.reduceBEq, Nat.reduceEqDiff, ↓reduceIte, Nat.reduceAdd, Nat.reduceSub])
  (refine awP (op_muli rfl rfl rfl (by omega)) ?_); (try simp only [nA, Nat.reduceBEq, Nat.reduceEqDiff, ↓reduceIte, Nat.reduceAdd, Nat.reduceSub])
  (refine awP (op_addi rfl rfl rfl (by omega)) ?_); (try simp only [nA, Nat.reduceBEq, Nat.reduceEqDiff, ↓reduceIte, Nat.reduceAdd, Nat.reduceSub])
  refine awP (op_assign rfl rfl) ?_; (simp only [nA])
  refine AWL.nil ?_
  (refine hK _ ?_; clear hK K; (skip))
  (refine AW.seq_k ?_; intro K hK)
  refine AW.region ?_
  refine awP (op_move rfl rfl) ?_; (simp only [nA, ↓reduceIte])
  refine awP (op_move rfl rfl) ?_; (simp only [nA, ↓reduceIte])
  (refine awP (op_quoi rfl rfl rfl (by omega)) ?_); (try simp only [nA, Nat.reduceBEq, Nat.reduceEqDiff, ↓reduceIte, Nat.reduceAdd, Nat.reduceSub])
  (refine awP (op_muli rfl rfl rfl (by omega)) ?_); (try simp only [nA, Nat.reduceBEq, Nat.reduceEqDiff, ↓reduceIte, Nat.reduceAdd, Nat.reduceSub])
  (refine awP (op_addi rfl rfl rfl (by omega)) ?_); (try simp only [nA, Nat.reduceBEq, Nat.reduceEqDiff, ↓reduceIte, Nat.reduceAdd, Nat.reduceSub])
  refine awP (op_assign rfl rfl) ?_; (simp only [nA])
  refine AWL.nil ?_
  (refine hK _ ?_; clear hK K; (skip))
  (refine AW.seq_k ?_; intro K hK)
  refine AW.region ?_
  refine awP (op_move rfl rfl) ?_; (simp only [nA, ↓reduceIte])
  refine awP (op_move rfl rfl) ?_; (simp only [nA, ↓reduceIte])
  (refine awP (op_quoi rfl rfl rfl (by omega)) ?_); (try simp only [nA, Nat.reduceBEq, Nat.reduceEqDiff, ↓reduceIte, Nat.reduceAdd, Nat.reduceSub])
  (refine awP (op_muli rfl rfl rfl (by omega)) ?_); (try simp only [nA, Nat.reduceBEq, Nat.reduceEqDiff, ↓reduceIte, Nat.reduceAdd, Nat.reduceSub])
  (refine awP (op_addi rfl rfl rfl (by omega)) ?_); (try simp only [nA, Nat.reduceBEq, Nat.reduceEqDiff, ↓reduceIte, Nat.reduceAdd, Nat.reduceSub])
  refine awP (op_assign rfl rfl) ?_; (simp only [nA])
  refine AWL.nil ?_
  (refine hK _ ?_; clear hK K; (skip))
  (refine AW.seq_k ?_; intro K hK)
  (refine AW.seq_k ?_; intro K hK)
  refine AW.region ?_
  refine awP (op_move rfl rfl) ?_; (simp only [nA, ↓reduceIte])
  refine awP (op_geq rfl rfl rfl) ?_; (try simp only [nA, Nat.reduceBEq, Nat.reduceEqDiff, ↓reduceIte, Nat.reduceAdd, Nat.reduceSub])
  refine AWL.nil ?_
  (refine hK _ ?_; clear hK K; (skip))
  refine AW.cond rfl rfl rfl (fun hc => ?_) (fun hc => ?_)
  ·
   (try simp only [hcS] at hc); have hc1 := hc
   refine AW.join (ι := Nat × Nat × Nat × Nat) (fun q => [(3, .ptr 0 1 0 0), (9, .ptr 1 2 0 0), (10, .v (.int .i64 (q.1 : Nat))), (11, .v (.int .i64 (q.2.1 : Nat))), (12, .v (.int .i64 (q.2.2.1 : Nat)))]) (fun q => ⟨[(1, .own 114 [dataR d u]), (2, .own 3 [[.v (.int .i64 (q.2.2.2 : Nat))]])], 3⟩) (fun q => nR befB d a b = q) ?_ ?_
   ·
    (refine AW.seq_k ?_; intro K hK)
    refine AW.region ?_
    refine awP (op_move rfl rfl) ?_; (simp only [nA, ↓reduceIte])
    refine awP (op_geq rfl rfl rfl) ?_; (try simp only [nA, Nat.reduceBEq, Nat.reduceEqDiff, ↓reduceIte, Nat.reduceAdd, Nat.reduceSub])
    refine AWL.nil ?_
    (refine hK _ ?_; clear hK K; (try simp only [nA, Nat.reduceBEq, Nat.reduceEqDiff, ↓reduceIte, Nat.reduceAdd, Nat.reduceSub]))
    refine AW.cond rfl rfl rfl (fun hc => ?_) (fun hc => ?_)
    ·
     (try simp only [hcS] at hc); have hc2 := hc; have h50 : b - a ≥ 50 := (by omega); obtain ⟨r1, r2, r3, k1, k2, k3, hN⟩ := nine (u := u) h50 hb hl
     (refine AW.seq_k ?_; intro K hK)
     refine AW.region ?_
     (refine awR (op_load_ptr rfl rfl rfl rfl ag114 sz114 (bl rfl) rfl) ?_); (try simp only [nA, Nat.reduceBEq, Nat.reduceEqDiff, ↓reduceIte, Nat.reduceAdd, Nat.reduceSub])
     refine awP (op_move rfl rfl) ?_; (simp only [nA, ↓reduceIte])
     refine awJ (op_call1 (r := 1) rfl en112 (k1 _ (by omega)) (by exact rfl) (RL.cons (.base (.same (by exact rfl))) (RL.cons (.base (.same (by exact rfl))) (RL.cons .ptr RL.nil))) (by exact ⟨_, _, _, rfl, rfl, rfl⟩) (by exact rfl) (by exact rfl) (by exact rfl)) ?_; (try simp only [nA, Nat.reduceBEq, Nat.reduceEqDiff, ↓reduceIte, Nat.reduceAdd, Nat.reduceSub])
     refine awP (op_assign rfl rfl) ?_; (simp only [nA])
     refine AWL.nil ?_
     (refine hK _ ?_; clear hK K; (skip))
     (refine AW.seq_k ?_; intro K hK)
     refine AW.region ?_
     (refine awR (op_load_ptr rfl rfl rfl rfl ag114 sz114 (bl rfl) rfl) ?_); (try simp only [nA, Nat.reduceBEq, Nat.reduceEqDiff, ↓reduceIte, Nat.reduceAdd, Nat.reduceSub])
     refine awP (op_move rfl rfl) ?_; (simp only [nA, ↓reduceIte])
     refine awJ (op_call1 (r := 1) rfl en112 (k2 _ (by omega)) (by exact rfl) (RL.cons (.base (.same (by exact rfl))) (RL.cons (.base (.same (by exact rfl))) (RL.cons .ptr RL.nil))) (by exact ⟨_, _, _, rfl, rfl, rfl⟩) (by exact rfl) (by exact rfl) (by exact rfl)) ?_; (try simp only [nA, Nat.reduceBEq, Nat.reduceEqDiff, ↓reduceIte, Nat.reduceAdd, Nat.reduceSub])
     refine awP (op_assign rfl rfl) ?_; (simp only [nA])
     refine AWL.nil ?_
     (refine hK _ ?_; clear hK K; (skip))
     refine AW.region ?_
     (refine awR (op_load_ptr rfl rfl rfl rfl ag114 sz114 (bl rfl) rfl) ?_); (try simp only [nA, Nat.reduceBEq, Nat.reduceEqDiff, ↓reduceIte, Nat.reduceAdd, Nat.reduceSub])
     refine awP (op_move rfl rfl) ?_; (simp only [nA, ↓reduceIte])
     refine awJ (op_call1 (r := 1) rfl en112 (k3 _ (by omega)) (by exact rfl) (RL.cons (.base (.same (by exact rfl))) (RL.cons (.base (.same (by exact rfl))) (RL.cons .ptr RL.nil))) (by exact ⟨_, _, _, rfl, rfl, rfl⟩) (by exact rfl) (by exact rfl) (by exact rfl)) ?_; (try simp only [nA, Nat.reduceBEq, Nat.reduceEqDiff, ↓reduceIte, Nat.reduceAdd, Nat.reduceSub])
     refine awP (op_assign rfl rfl) ?_; (simp only [nA])
     refine AWL.nil ?_
     exact ⟨(r1.1, r2.1, r3.1, r3.2), hN, ⟨rfl, rfl, rfl, rfl, rfl, trivial⟩, rfl, rfl⟩
    (try simp only [hcS] at hc); have hc2 := hc; have h50 : ¬ b - a ≥ 50 := (by omega)
    refine AW.skip ?_
    exact ⟨((a + (b - a) / 4 * 1), (a + (b - a) / 4 * 2), (a + (b - a) / 4 * 3), 0), nR_neg h50, ⟨rfl, rfl, vint (by dsimp only; omega), vint (by dsimp only; omega), vint (by dsimp only; omega), trivial⟩, rfl, rfl⟩
   rintro ⟨n1, n2, n3, n4⟩ ρ hN; simp only [updL]; have hn := nR_bd (lt := befB) h8 hb; have hch := chooseP (lt := befB) (d := d) h8; rw [hN] at hn hch; dsimp only at hn hch ⊢; have k4 := C113 (u := u) (d := d) (a := n1) (b := n2) (c := n3) (s := n4) hn.1 hn.2.1 hn.2.2.1 hl (by omega); generalize Go.Sort.median befB d n1 n2 n3 n4 = m at k4 hch
   refine AW.region ?_
   (refine awR (op_load_ptr rfl rfl rfl rfl ag114 sz114 (bl rfl) rfl) ?_); (try simp only [nA, Nat.reduceBEq, Nat.reduceEqDiff, ↓reduceIte, Nat.reduceAdd, Nat.reduceSub])
   refine awP (op_move rfl rfl) ?_; (simp only [nA, ↓reduceIte])
   refine awP (op_move rfl rfl) ?_; (simp only [nA, ↓reduceIte])
   refine awP (op_move rfl rfl) ?_; (simp only [nA, ↓reduceIte])
   refine awJ (op_call1 (r := 1) rfl en113 k4 (by exact rfl) (RL.cons (.base (.same (by exact rfl))) (RL.cons (.base (.same (by exact rfl))) (RL.cons (.base (.same (by exact rfl))) (RL.cons (.base (.same (by exact rfl))) (RL.cons .ptr RL.nil))))) (by exact ⟨_, _, _, rfl, rfl, rfl⟩) (by exact rfl) (by exact rfl) (by exact rfl)) ?_; (try simp only [nA, Nat.reduceBEq, Nat.reduceEqDiff, ↓reduceIte, Nat.reduceAdd, Nat.reduceSub])
   refine awP (op_assign rfl rfl) ?_; (simp only [nA])
   refine AWL.nil ?_
   (refine hK _ ?_; clear hK K; (skip))
   (refine AW.seq_k ?_; intro K hK)
   refine AW.region ?_
   (refine awR (op_load_ptr1 rfl rfl rfl rfl ag3 rfl rfl) ?_); (try simp only [nA, Nat.reduceBEq, Nat.reduceEqDiff, ↓reduceIte, Nat.reduceAdd, Nat.reduceSub])
   refine AWL.nil ?_
   (refine hK _ ?_; clear hK K; (skip))
   refine AW.block ?_
   (refine AW.seq_k ?_; intro K hK)
   refine AW.region ?_
   (refine awP (op_eql rfl rfl rfl) ?_); (try simp only [nA, Nat.reduceBEq, Nat.reduceEqDiff, ↓reduceIte, Nat.reduceAdd, Nat.reduceSub])
   refine awP (op_assign rfl rfl) ?_; (simp only [nA])
   refine AWL.nil ?_
   (refine hK _ ?_; clear hK K; (skip))
   refine AW.cond rfl rfl rfl (fun hc => ?_) (fun hc => ?_)
   ·
    (try simp only [hcS] at hc); have hc3 := hc
    (refine AW.seq_k ?_; intro K hK)
    refine AW.region ?_
    refine awP (op_move rfl rfl) ?_; (simp only [nA, ↓reduceIte])
    refine awP (op_assign rfl rfl) ?_; (simp only [nA])
    refine awP (op_assign rfl rfl) ?_; (try simp only [nA, Nat.reduceBEq, Nat.reduceEqDiff, ↓reduceIte, Nat.reduceAdd, Nat.reduceSub])
    refine AWL.nil ?_
    (refine hK _ ?_; clear hK K; (skip))
    skip
    refine AW.ret ?_; (try simp only [thenE, inBlk, Nat.reduceEqDiff, ↓reduceIte]); rw [hch, if_pos (by omega)]; exact RQ.of0 rfl (.tmp (bl rfl) rfl rfl (.tmp (bl rfl) rfl rfl .nil))
   (try simp only [hcS] at hc); have hc3 := hc
   (refine AW.seq_k ?_; intro K hK)
   refine AW.region ?_
   (refine awP (op_eql rfl rfl rfl) ?_); (try simp only [nA, Nat.reduceBEq, Nat.reduceEqDiff, ↓reduceIte, Nat.reduceAdd, Nat.reduceSub])
   refine awP (op_assign rfl rfl) ?_; (simp only [nA])
   refine AWL.nil ?_
   (refine hK _ ?_; clear hK K; (skip))
   refine AW.cond rfl rfl rfl (fun hc => ?_) (fun hc => ?_)
   ·
    (try simp only [hcS] at hc); have hc4 := hc
    (refine AW.seq_k ?_; intro K hK)
    refine AW.region ?_
    refine awP (op_move rfl rfl) ?_; (simp only [nA, ↓reduceIte])
    refine awP (op_assign rfl rfl) ?_; (simp only [nA])
    refine awP (op_assign rfl rfl) ?_; (try simp only [nA, Nat.reduceBEq, Nat.reduceEqDiff, ↓reduceIte, Nat.reduceAdd, Nat.reduceSub])
    refine AWL.nil ?_
    (refine hK _ ?_; clear hK K; (skip))
    skip
    refine AW.ret ?_; (try simp only [thenE, inBlk, Nat.reduceEqDiff, ↓reduceIte]); rw [hch, if_neg (by omega), if_pos (by omega)]; exact RQ.of0 rfl (.tmp (bl rfl) rfl rfl (.tmp (bl rfl) rfl rfl .nil))
   (try simp only [hcS] at hc); have hc4 := hc
   (refine AW.seq_k ?_; intro K hK)
   refine AW.region ?_
   refine awP (op_move rfl rfl) ?_; (simp only [nA, ↓reduceIte])
   refine awP (op_assign rfl rfl) ?_; (simp only [nA])
   refine awP (op_assign rfl rfl) ?_; (try simp only [nA, Nat.reduceBEq, Nat.reduceEqDiff, ↓reduceIte, Nat.reduceAdd, Nat.reduceSub])
   refine AWL.nil ?_
   (refine hK _ ?_; clear hK K; (skip))
   skip
   refine AW.ret ?_; (try simp only [thenE, inBlk, Nat.reduceEqDiff, ↓reduceIte]); rw [hch, if_neg (by omega), if_neg (by omega)]; exact RQ.of0 rfl (.tmp (bl rfl) rfl rfl (.tmp (bl rfl) rfl rfl .nil))
  (simp at hc; omega)
end Go.Proofs.YtmdohphcolffmaaGreat
namespace Go.Proofs.YtmdohphcolffmaaGreat
open Go.RowKit
set_option linter.unusedSimpArgs false
set_option linter.unusedVariables false
set_option maxRecDepth 100000
section
open Go.Sort
variable {lt : Piece → Piece → Bool} {a b i i2 j k s : Nat} {d d3 dw : Array Piece}
theorem scanS_pos (h : i < b) (h2 : lt d[i]! d[i - 1]! = false) : scanSorted lt d b i = scanSorted lt d b (i + 1) := by
  rw [scanSorted, if_pos (by rw [h2]; simp [h])]
theorem scanS_neg (h : ¬ (i < b ∧ lt d[i]! d[i - 1]! = false)) : scanSorted lt d b i = i := by
  rw [scanSorted, if_neg (by simpa using h)]
theorem pI_done (h : scanSorted lt d b i = b) : partialIns lt a b (s + 1) i d = (d, true) := by
  rw [partialIns]
  simp only [h, if_true]
theorem pI_small (h : scanSorted lt d b i = i2) (h2 : ¬ i2 = b) (h3 : b - a < 50) : partialIns lt a b (s + 1) i d = (d, false) := by
  rw [partialIns]
  simp only [h, h2, h3, if_false, if_true]
theorem pI_step (h : scanSorted lt d b i = i2) (h2 : ¬ i2 = b) (h3 : ¬ b - a < 50) (hw : swp d i2 (i2 - 1) = dw) (hd : (if i2 - a ≥ 2 then shiftDown lt (i2 - 1) dw else dw) = d3) :
    partialIns lt a b (s + 1) i d = partialIns lt a b s i2 (if b - i2 ≥ 2 then shiftUp lt b (i2 + 1) d3 else d3) := by
  subst hw
  subst hd
  rw [partialIns]
  simp only [h, h2, h3, if_false]
theorem sd_0 : shiftDown lt 0 d = d := rfl
theorem sd_stop (hj : 1 ≤ j) (h : lt d[j]! d[j - 1]! = false) : shiftDown lt j d = d := by
  obtain ⟨j, rfl⟩ : ∃ q, j = q + 1 := ⟨j - 1, by omega⟩
  rw [Nat.add_sub_cancel] at h
  rw [shiftDown, h]
  rfl
theorem sd_step (hj : 1 ≤ j) (h : lt d[j]! d[j - 1]! = true) : shiftDown lt j d = shiftDown lt (j - 1) (swp d j (j - 1)) := by
  obtain ⟨j, rfl⟩ : ∃ q, j = q + 1 := ⟨j - 1, by omega⟩
  rw [Nat.add_sub_cancel] at h ⊢
  rw [shiftDown, h]
  rfl
theorem su_end (h : ¬ k < b) : shiftUp lt b k d = d := by rw [shiftUp, if_neg h]
theorem su_stop (hk : k < b) (h : lt d[k]! d[k - 1]! = false) : shiftUp lt b k d = d := by rw [shiftUp, if_pos hk, h]; rfl
theorem su_step (hk : k < b) (h : lt d[k]! d[k - 1]! = true) : shiftUp lt b k d = shiftUp lt b (k + 1) (swp d k (k - 1)) := by rw [shiftUp, if_pos hk, h]; rfl
theorem sd_size : ∀ (j : Nat) (d : Array Piece), (shiftDown lt j d).size = d.size
  | 0, d => rfl
  | j + 1, d => by
    rw [shiftDown]
    split
    · rfl
    rw [sd_size j, size_swp]
theorem su_size (b : Nat) : ∀ (n k : Nat) (d : Array Piece), b - k = n → (shiftUp lt b k d).size = d.size
  | 0, k, d, h => by rw [su_end (by omega)]
  | n + 1, k, d, h => by
    rw [shiftUp, if_pos (by omega)]
    split
    · rfl
    rw [su_size b n (k + 1) _ (by omega), size_swp]
theorem pIns_size (a b : Nat) : ∀ (s i : Nat) (d : Array Piece), (partialIns lt a b s i d).1.size = d.size
  | 0, _, d => rfl
  | s + 1, i, d => by
    by_cases h1 : scanSorted lt d b i = b
    · rw [pI_done h1]
    by_cases h3 : b - a < 50
    · rw [pI_small rfl h1 h3]
    rw [pI_step rfl h1 h3 rfl rfl, pIns_size a b s]
    have e1 : ∀ x : Array Piece, (if b - scanSorted lt d b i ≥ 2 then shiftUp lt b (scanSorted lt d b i + 1) x else x).size = x.size := fun x => by
      split
      · exact su_size _ _ _ _ rfl
      rfl
    have e2 : ∀ x : Array Piece, (if scanSorted lt d b i - a ≥ 2 then shiftDown lt (scanSorted lt d b i - 1) x else x).size = x.size := fun x => by
      split
      · exact sd_size _ _
      rfl
    rw [e1, e2, size_swp]
theorem pI_size (d : Array Piece) (a b : Nat) : (partialInsertionSort lt d a b).1.size = d.size := pIns_size a b 5 (a + 1) d
end
set_option maxHeartbeats 8000000 in
theorem C100 {u : Value} {d : Array Piece} {a b : Nat} (hab : a < b) (hb : b ≤ d.size) (hl : d.size ≤ 1000) : Fn Tryz.prog 100 [srt u d] [.agg (dataW u), .v (.int .i64 a), .v (.int .i64 b)] [.v (.bool (Go.Sort.partialInsertionSort befB d a b).2)] [srt u (Go.Sort.partialInsertionSort befB d a b).1] := by
  refine Spec.body Tryz.func100 rfl Tryz.ntmps100 (by simp) rfl ?_; intro S0 own0 v0 w0
  (refine AW.seq_k ?_; intro K hK)
  refine AW.region ?_
  refine awJ (op_box rfl rfl rfl sz114 rfl) ?_; (simp only [nA, Nat.reduceBEq, Nat.reduceEqDiff, ↓reduceIte])
  refine awP (op_assign rfl rfl) ?_; (try simp only [nA, Nat.reduceBEq, Nat.reduceEqDiff, ↓reduceIte, Nat.reduceAdd, Nat.reduceSub])
  refine AWL.nil ?_
  (refine hK _ ?_; clear hK K; (try simp only [nA, Nat.reduceBEq, Nat.reduceEqDiff, ↓reduceIte, Nat.reduceAdd, Nat.reduceSub]))
  (refine AW.seq_k ?_; intro K hK)
  refine AW.region ?_
  refine awP (op_move rfl rfl) ?_; (simp only [nA, ↓reduceIte])
  (refine awP (op_addi rfl rfl rfl (by omega)) ?_); (try simp only [nA, Nat.reduceBEq, Nat.reduceEqDiff, ↓reduceIte, Nat.reduceAdd, Nat.reduceSub])
  refine awP (op_assign rfl rfl) ?_; (simp only [nA])
  refine AWL.nil ?_
  (refine hK _ ?_; clear hK K; (skip))
  (refine AW.seq_k ?_; intro K hK)
  (refine AW.seq_k ?_; intro K hK)
  refine AW.region ?_
  refine awP (op_assign rfl rfl) ?_; (try simp only [nA, Nat.reduceBEq, Nat.reduceEqDiff, ↓reduceIte, Nat.reduceAdd, Nat.reduceSub])
  refine AWL.nil ?_
  (refine hK _ ?_; clear hK K; (skip))
  refine AW.block ?_
  refine AW.loopI (fun (q : Nat × Nat × Array Piece) => [(1, .v (.int .i64 a)), (2, .v (.int .i64 b)), (3, .ptr 1 1 0 0), (7, .v (.int .i64 (q.2.1 : Nat))), (8, .v (.int .i64 ((5 : Int) - (q.1 : Nat))))]) (fun q => ⟨[(0, srt u q.2.2), (1, .own 114 [dataW u])], 2⟩) (fun q => q.1 ≤ 5 ∧ a < q.2.1 ∧ q.2.1 ≤ b ∧ q.2.2.size = d.size ∧ Go.Sort.partialIns befB a b q.1 q.2.1 q.2.2 = Go.Sort.partialInsertionSort befB d a b) (fun q => q.1) (5, a + 1, d) ⟨by dsimp only; omega, by dsimp only; omega, by dsimp only; omega, rfl, rfl⟩ ⟨rfl, rfl, rfl, vint (by simp), vint (by simp), trivial⟩ rfl ?_; rintro ⟨s, i, dk⟩ ρ ⟨hs5, hai, hib, hsz, hP⟩; dsimp only at hs5 hai hib hsz hP ⊢; simp only [updL]
  (refine AW.seq_k ?_; intro K hK)
  (refine AW.seq_k ?_; intro K hK)
  refine AW.region ?_
  refine awP (op_move rfl rfl) ?_; (simp only [nA, ↓reduceIte])
  refine awP (op_lss rfl rfl rfl) ?_; (try simp only [nA, Nat.reduceBEq, Nat.reduceEqDiff, ↓reduceIte, Nat.reduceAdd, Nat.reduceSub])
  refine AWL.nil ?_
  (refine hK _ ?_; clear hK K; (skip))
  refine AW.cond rfl rfl rfl (fun hc => ?_) (fun hc => ?_)
  ·
   (try simp only [hcS] at hc); have hc1 := hc; obtain ⟨s, rfl⟩ : ∃ q, s = q + 1 := ⟨s - 1, by omega⟩
   refine AW.skip ?_
   (refine hK _ ?_; clear hK K; (skip))
   (refine AW.seq_k ?_; intro K hK)
   refine AW.block ?_
   (refine AW.seq_k ?_; intro K hK)
   refine AW.block ?_
   refine AW.loopI (fun (i : Nat) => [(1, .v (.int .i64 a)), (2, .v (.int .i64 b)), (3, .ptr 1 1 0 0), (7, .v (.int .i64 (i : Nat))), (8, .v (.int .i64 ((5 : Int) - ((s + 1 : Nat) : Int))))]) (fun _ => ⟨[(0, srt u dk), (1, .own 114 [dataW u])], 2⟩) (fun i2 => a < i2 ∧ i2 ≤ b ∧ Go.Sort.scanSorted befB dk b i2 = Go.Sort.scanSorted befB dk b i) (fun i2 => b - i2) i ⟨by omega, by omega, rfl⟩ ⟨rfl, rfl, rfl, rfl, rfl, trivial⟩ rfl ?_; rintro i2 ρ2 ⟨hi1, hi2, hS⟩; simp only [updL]
   (refine AW.seq_k ?_; intro K hK)
   (refine AW.seq_k ?_; intro K hK)
   refine AW.region (AWL.quiet ?_)
   refine aqP (op_move rfl rfl) ?_; (simp only [nA, ↓reduceIte])
   refine aqP (op_move rfl rfl) ?_; (simp only [nA, ↓reduceIte])
   refine aqP (op_lss rfl rfl rfl) ?_; (try simp only [nA, Nat.reduceBEq, Nat.reduceEqDiff, ↓reduceIte, Nat.reduceAdd, Nat.reduceSub])
   refine aqP (op_move rfl rfl) ?_; (simp only [nA])
   refine' aqAnd' [_, _, _, _, _, _, _] [21,22,23,24,25,26,27] rfl rfl rfl rfl rfl rfl rfl rfl rfl rfl rfl rfl (fun hb => ?_) ?_; rotate_left
   ·
    (try simp only [hcS] at hb)
    (refine aqP (op_fa_ptr rfl rfl rfl fl114_0 (by exact sz2) (by decide) rfl) ?_); (try simp only [nA, Nat.reduceBEq, Nat.reduceEqDiff, ↓reduceIte, Nat.reduceAdd, Nat.reduceSub])
    (refine aqR (op_load_ptr1 rfl rfl rfl rfl ag87 rfl rfl) ?_); (try simp only [nA, Nat.reduceBEq, Nat.reduceEqDiff, ↓reduceIte, Nat.reduceAdd, Nat.reduceSub])
    refine aqP (op_move rfl rfl) ?_; (simp only [nA, ↓reduceIte])
    refine aqP (op_move rfl rfl) ?_; (simp only [nA, ↓reduceIte])
    (refine aqP (op_subi rfl rfl rfl (by omega)) ?_); (try simp only [nA, Nat.reduceBEq, Nat.reduceEqDiff, ↓reduceIte, Nat.reduceAdd, Nat.reduceSub])
    refine aqQ (op_lt (r := 0) (d := dk) rfl rfl rfl rfl rfl (by omega) (by omega) (by omega)) ?_; (try simp only [nA, Nat.reduceBEq, Nat.reduceEqDiff, ↓reduceIte, Nat.reduceAdd, Nat.reduceSub])
    refine aqP (op_not rfl rfl rfl) ?_; (try simp only [nA, Nat.reduceBEq, Nat.reduceEqDiff, ↓reduceIte, Nat.reduceAdd, Nat.reduceSub])
    (refine aqSeg rfl rfl rfl ?_; repeat (first | exact fun _ _ => rfl | refine upd_out rfl ?_))
   refine AQ.nil ?_
   (refine hK _ ?_; clear hK K; (skip))
   refine AW.cond rfl rfl rfl (fun hc => ?_) (fun hc => ?_)
   ·
    (try simp only [hcS] at hc); have hc2 := hc; simp only [Int.toNat_natCast, Bool.and_eq_true, Bool.not_eq_true', decide_eq_true_eq, show ((i2 : Int) - 1).toNat = i2 - 1 by omega] at hc
    refine AW.skip ?_
    (refine hK _ ?_; clear hK K; (skip))
    refine AW.block ?_
    refine AW.region ?_
    refine awP (op_move rfl rfl) ?_; (simp only [nA, Nat.reduceEqDiff, ↓reduceIte])
    (refine awP (op_addi rfl rfl rfl (by omega)) ?_); (try simp only [nA, Nat.reduceBEq, Nat.reduceEqDiff, ↓reduceIte, Nat.reduceAdd, Nat.reduceSub])
    refine awP (op_assign rfl rfl) ?_; (simp only [nA])
    refine AWL.nil ?_
    (try simp only [thenE, inBlk, Nat.reduceEqDiff, ↓reduceIte])
    refine ⟨i2 + 1, ⟨by omega, by omega, by rw [← hS]; exact (scanS_pos (lt := befB) (d := dk) (b := b) (i := i2) (by omega) hc.2).symm⟩, by omega, ⟨rfl, rfl, rfl, rfl, rfl, trivial⟩, (by trivial), (by trivial)⟩
   (try simp only [hcS] at hc); have hc2 := hc; simp only [Int.toNat_natCast, Bool.and_eq_true, Bool.not_eq_true', decide_eq_true_eq, show ((i2 : Int) - 1).toNat = i2 - 1 by omega] at hc
   refine AW.exit ?_; (try simp only [thenE, inBlk, Nat.reduceEqDiff, ↓reduceIte])
   clear hK K
   (refine hK _ ?_; clear hK K; (skip))
   (refine AW.seq_k ?_; intro K hK)
   (refine AW.seq_k ?_; intro K hK)
   refine AW.region ?_
   refine awP (op_move rfl rfl) ?_; (simp only [nA, Nat.reduceEqDiff, ↓reduceIte])
   refine awP (op_move rfl rfl) ?_; (simp only [nA, Nat.reduceEqDiff, ↓reduceIte])
   (refine awP (op_eql rfl rfl rfl) ?_); (try simp only [nA, Nat.reduceBEq, Nat.reduceEqDiff, ↓reduceIte, Nat.reduceAdd, Nat.reduceSub])
   refine AWL.nil ?_
   (refine hK _ ?_; clear hK K; (skip))
   refine AW.cond rfl rfl rfl (fun hc => ?_) (fun hc => ?_)
   ·
    (try simp only [hcS] at hc); have hc3 := hc; have hse : Go.Sort.scanSorted befB dk b i = i2 := hS.symm.trans (scanS_neg (by rintro ⟨h1, h2⟩; rcases hc2 with h | h; omega; simp [h2] at h)); have he3 : i2 = b := (by omega)
    (refine AW.seq_k ?_; intro K hK)
    refine AW.region ?_
    refine awP (op_assign rfl rfl) ?_; (try simp only [nA, Nat.reduceBEq, Nat.reduceEqDiff, ↓reduceIte, Nat.reduceAdd, Nat.reduceSub])
    refine AWL.nil ?_
    (refine hK _ ?_; clear hK K; (skip))
    skip
    refine AW.ret ?_; (try simp only [thenE, inBlk, Nat.reduceEqDiff, ↓reduceIte]); rw [← hP, pI_done (hse.trans he3)]; exact RQ.of (.inl rfl) rfl (.tmp (bl rfl) rfl rfl .nil) (by simp) rfl (one_out rfl)
   (try simp only [hcS] at hc); have hc3 := hc; have hse : Go.Sort.scanSorted befB dk b i = i2 := hS.symm.trans (scanS_neg (by rintro ⟨h1, h2⟩; rcases hc2 with h | h; omega; simp [h2] at h)); have he3 : ¬ i2 = b := (by omega)
   refine AW.skip ?_
   (refine hK _ ?_; clear hK K; (skip))
   (refine AW.seq_k ?_; intro K hK)
   (refine AW.seq_k ?_; intro K hK)
   refine AW.region ?_
   refine awP (op_move rfl rfl) ?_; (simp only [nA, Nat.reduceEqDiff, ↓reduceIte])
   refine awP (op_move rfl rfl) ?_; (simp only [nA, Nat.reduceEqDiff, ↓reduceIte])
   (refine awP (op_subi rfl rfl rfl (by omega)) ?_); (try simp only [nA, Nat.reduceBEq, Nat.reduceEqDiff, ↓reduceIte, Nat.reduceAdd, Nat.reduceSub])
   refine awP (op_lss rfl rfl rfl) ?_; (try simp only [nA, Nat.reduceBEq, Nat.reduceEqDiff, ↓reduceIte, Nat.reduceAdd, Nat.reduceSub])
   refine AWL.nil ?_
   (refine hK _ ?_; clear hK K; (skip))
   refine AW.cond rfl rfl rfl (fun hc => ?_) (fun hc => ?_)
   ·
    (try simp only [hcS] at hc); have hc4 := hc; have h4 : b - a < 50 := (by omega)
    (refine AW.seq_k ?_; intro K hK)
    refine AW.region ?_
    refine awP (op_assign rfl rfl) ?_; (try simp only [nA, Nat.reduceBEq, Nat.reduceEqDiff, ↓reduceIte, Nat.reduceAdd, Nat.reduceSub])
    refine AWL.nil ?_
    (refine hK _ ?_; clear hK K; (skip))
    skip
    refine AW.ret ?_; (try simp only [thenE, inBlk, Nat.reduceEqDiff, ↓reduceIte]); rw [← hP, pI_small hse he3 h4]; exact RQ.of (.inl rfl) rfl (.tmp (bl rfl) rfl rfl .nil) (by simp) rfl (one_out rfl)
   (try simp only [hcS] at hc); have hc4 := hc; have h4 : ¬ b - a < 50 := (by omega)
   refine AW.skip ?_
   (refine hK _ ?_; clear hK K; (skip))
   (refine AW.seq_k ?_; intro K hK)
   refine AW.region ?_
   (refine awP (op_fa_ptr rfl rfl rfl fl114_1 (by exact sz2) (by decide) rfl) ?_); (try simp only [nA, Nat.reduceBEq, Nat.reduceEqDiff, ↓reduceIte, Nat.reduceAdd, Nat.reduceSub])
   (refine awR (op_load_ptr1 rfl rfl rfl rfl ag108 rfl rfl) ?_); (try simp only [nA, Nat.reduceBEq, Nat.reduceEqDiff, ↓reduceIte, Nat.reduceAdd, Nat.reduceSub])
   refine awP (op_move rfl rfl) ?_; (simp only [nA, Nat.reduceEqDiff, ↓reduceIte])
   refine awP (op_move rfl rfl) ?_; (simp only [nA, Nat.reduceEqDiff, ↓reduceIte])
   (refine awP (op_subi rfl rfl rfl (by omega)) ?_); (try simp only [nA, Nat.reduceBEq, Nat.reduceEqDiff, ↓reduceIte, Nat.reduceAdd, Nat.reduceSub])
   refine awJ (op_sw (r := 0) (d := dk) rfl rfl rfl rfl rfl (by omega) (by omega) rfl) ?_; simp only [Int.toNat_natCast, show ((i2 : Int) - 1).toNat = i2 - 1 by omega]; (try simp only [nA, Nat.reduceBEq, Nat.reduceEqDiff, ↓reduceIte, Nat.reduceAdd, Nat.reduceSub])
   refine AWL.nil ?_
   (refine hK _ ?_; clear hK K; (skip))
   have hszw : (Go.Sort.swp dk i2 (i2 - 1)).size = d.size := (by rw [Go.Sort.size_swp, hsz]); refine AW.join (ι := Unit) (fun _ => [(1, .v (.int .i64 a)), (2, .v (.int .i64 b)), (3, .ptr 1 1 0 0), (7, .v (.int .i64 (i2 : Nat))), (8, .v (.int .i64 ((5 : Int) - ((s + 1 : Nat) : Int))))]) (fun _ => ⟨[(0, srt u (if i2 - a ≥ 2 then Go.Sort.shiftDown befB (i2 - 1) (Go.Sort.swp dk i2 (i2 - 1)) else (Go.Sort.swp dk i2 (i2 - 1)))), (1, .own 114 [dataW u])], 2⟩) (fun _ => True) ?_ ?_
   ·
    (refine AW.seq_k ?_; intro K hK)
    refine AW.region ?_
    refine awP (op_move rfl rfl) ?_; (simp only [nA, Nat.reduceEqDiff, ↓reduceIte])
    refine awP (op_move rfl rfl) ?_; (simp only [nA, Nat.reduceEqDiff, ↓reduceIte])
    (refine awP (op_subi rfl rfl rfl (by omega)) ?_); (try simp only [nA, Nat.reduceBEq, Nat.reduceEqDiff, ↓reduceIte, Nat.reduceAdd, Nat.reduceSub])
    refine awP (op_geq rfl rfl rfl) ?_; (try simp only [nA, Nat.reduceBEq, Nat.reduceEqDiff, ↓reduceIte, Nat.reduceAdd, Nat.reduceSub])
    refine AWL.nil ?_
    (refine hK _ ?_; clear hK K; (try simp only [nA, Nat.reduceBEq, Nat.reduceEqDiff, ↓reduceIte, Nat.reduceAdd, Nat.reduceSub]))
    refine AW.cond rfl rfl rfl (fun hc => ?_) (fun hc => ?_)
    ·
     (try simp only [hcS] at hc); have hc5 := hc; have h5 : i2 - a ≥ 2 := (by omega)
     (refine AW.seq_k ?_; intro K hK)
     refine AW.region ?_
     refine awP (op_move rfl rfl) ?_; (simp only [nA, Nat.reduceEqDiff, ↓reduceIte])
     (refine awP (op_subi rfl rfl rfl (by omega)) ?_); (try simp only [nA, Nat.reduceBEq, Nat.reduceEqDiff, ↓reduceIte, Nat.reduceAdd, Nat.reduceSub])
     refine awP (op_assign rfl rfl) ?_; (simp only [nA])
     refine AWL.nil ?_
     (refine hK _ ?_; clear hK K; (skip))
     refine AW.block ?_
     refine AW.loopI (fun (q : Nat × Array Piece) => [(1, .v (.int .i64 a)), (2, .v (.int .i64 b)), (3, .ptr 1 1 0 0), (7, .v (.int .i64 (i2 : Nat))), (8, .v (.int .i64 ((5 : Int) - ((s + 1 : Nat) : Int)))), (9, .v (.int .i64 (q.1 : Nat)))]) (fun q => ⟨[(0, srt u q.2), (1, .own 114 [dataW u])], 2⟩) (fun q => q.1 ≤ i2 - 1 ∧ q.2.size = d.size ∧ Go.Sort.shiftDown befB q.1 q.2 = Go.Sort.shiftDown befB (i2 - 1) (Go.Sort.swp dk i2 (i2 - 1))) (fun q => q.1) (i2 - 1, (Go.Sort.swp dk i2 (i2 - 1))) ⟨Nat.le_refl _, hszw, rfl⟩ ⟨rfl, rfl, rfl, rfl, rfl, vint (by dsimp only; omega), trivial⟩ rfl ?_; rintro ⟨j, dj⟩ ρ3 ⟨hj, hszj, hJ⟩; dsimp only at hj hszj hJ ⊢; simp only [updL]
     (refine AW.seq_k ?_; intro K hK)
     (refine AW.seq_k ?_; intro K hK)
     refine AW.region ?_
     refine awP (op_move rfl rfl) ?_; (simp only [nA, ↓reduceIte])
     refine awP (op_geq rfl rfl rfl) ?_; (try simp only [nA, Nat.reduceBEq, Nat.reduceEqDiff, ↓reduceIte, Nat.reduceAdd, Nat.reduceSub])
     refine AWL.nil ?_
     (refine hK _ ?_; clear hK K; (skip))
     refine AW.cond rfl rfl rfl (fun hc => ?_) (fun hc => ?_)
     ·
      (try simp only [hcS] at hc); have hc6 := hc; have h6 : 1 ≤ j := (by omega)
      refine AW.skip ?_
      (refine hK _ ?_; clear hK K; (skip))
      (refine AW.seq_k ?_; intro K hK)
      refine AW.block ?_
      (refine AW.seq_k ?_; intro K hK)
      (refine AW.seq_k ?_; intro K hK)
      refine AW.region ?_
      (refine awP (op_fa_ptr rfl rfl rfl fl114_0 (by exact sz2) (by decide) rfl) ?_); (try simp only [nA, Nat.reduceBEq, Nat.reduceEqDiff, ↓reduceIte, Nat.reduceAdd, Nat.reduceSub])
      (refine awR (op_load_ptr1 rfl rfl rfl rfl ag87 rfl rfl) ?_); (try simp only [nA, Nat.reduceBEq, Nat.reduceEqDiff, ↓reduceIte, Nat.reduceAdd, Nat.reduceSub])
      refine awP (op_move rfl rfl) ?_; (simp only [nA, ↓reduceIte])
      refine awP (op_move rfl rfl) ?_; (simp only [nA, ↓reduceIte])
      (refine awP (op_subi rfl rfl rfl (by omega)) ?_); (try simp only [nA, Nat.reduceBEq, Nat.reduceEqDiff, ↓reduceIte, Nat.reduceAdd, Nat.reduceSub])
      refine awJ (OpQ.j (op_lt (r := 0) (d := dj) rfl rfl rfl rfl rfl (by omega) (by omega) (by omega))) ?_; (try simp only [nA, Nat.reduceBEq, Nat.reduceEqDiff, ↓reduceIte, Nat.reduceAdd, Nat.reduceSub])
      refine awP (op_not rfl rfl rfl) ?_; (try simp only [nA, Nat.reduceBEq, Nat.reduceEqDiff, ↓reduceIte, Nat.reduceAdd, Nat.reduceSub])
      refine AWL.nil ?_
      (refine hK _ ?_; clear hK K; (skip))
      refine AW.cond rfl rfl rfl (fun hc => ?_) (fun hc => ?_)
      ·
       (try simp only [hcS] at hc); have hc7 := hc; simp only [Int.toNat_natCast, Bool.not_eq_true', Bool.not_eq_false', show ((j : Int) - 1).toNat = j - 1 by omega] at hc
       refine AW.exit ?_; (try simp only [thenE, inBlk, Nat.reduceEqDiff, ↓reduceIte])
       clear hK K
       clear hK K
       refine ⟨(), trivial, ⟨rfl, rfl, rfl, rfl, rfl, trivial⟩, ?_, (by trivial)⟩; simp only [if_pos h5]; rw [← hJ, sd_stop h6 hc]
      (try simp only [hcS] at hc); have hc7 := hc; simp only [Int.toNat_natCast, Bool.not_eq_true', Bool.not_eq_false', show ((j : Int) - 1).toNat = j - 1 by omega] at hc
      refine AW.skip ?_
      (refine hK _ ?_; clear hK K; (skip))
      refine AW.region ?_
      (refine awP (op_fa_ptr rfl rfl rfl fl114_1 (by exact sz2) (by decide) rfl) ?_); (try simp only [nA, Nat.reduceBEq, Nat.reduceEqDiff, ↓reduceIte, Nat.reduceAdd, Nat.reduceSub])
      (refine awR (op_load_ptr1 rfl rfl rfl rfl ag108 rfl rfl) ?_); (try simp only [nA, Nat.reduceBEq, Nat.reduceEqDiff, ↓reduceIte, Nat.reduceAdd, Nat.reduceSub])
      refine awP (op_move rfl rfl) ?_; (simp only [nA, ↓reduceIte])
      refine awP (op_move rfl rfl) ?_; (simp only [nA, ↓reduceIte])
      (refine awP (op_subi rfl rfl rfl (by omega)) ?_); (try simp only [nA, Nat.reduceBEq, Nat.reduceEqDiff, ↓reduceIte, Nat.reduceAdd, Nat.reduceSub])
      refine awJ (op_sw (r := 0) (d := dj) rfl rfl rfl rfl rfl (by omega) (by omega) rfl) ?_; (try simp only [nA, Nat.reduceBEq, Nat.reduceEqDiff, ↓reduceIte, Nat.reduceAdd, Nat.reduceSub])
      refine AWL.nil ?_
      (try simp only [thenE, inBlk, Nat.reduceEqDiff, ↓reduceIte])
      (refine hK _ ?_; clear hK K; (skip))
      refine AW.region ?_
      refine awP (op_move rfl rfl) ?_; (simp only [nA, ↓reduceIte])
      (refine awP (op_subi rfl rfl rfl (by omega)) ?_); (try simp only [nA, Nat.reduceBEq, Nat.reduceEqDiff, ↓reduceIte, Nat.reduceAdd, Nat.reduceSub])
      refine awP (op_assign rfl rfl) ?_; (simp only [nA])
      skip
      refine AWL.nil ?_
      refine ⟨(j - 1, Go.Sort.swp dj j (j - 1)), ⟨by dsimp only; omega, by dsimp only; rw [Go.Sort.size_swp, hszj], by dsimp only; rw [← hJ]; exact (sd_step h6 hc).symm⟩, by dsimp only; omega, ⟨rfl, rfl, rfl, rfl, rfl, vint (by omega), trivial⟩, (by simp only [Int.toNat_natCast, show ((j : Int) - 1).toNat = j - 1 by omega]), (by rfl)⟩
     (try simp only [hcS] at hc); have hc6 := hc; obtain rfl : j = 0 := (by omega)
     refine AW.exit ?_; (try simp only [thenE, inBlk, Nat.reduceEqDiff, ↓reduceIte])
     clear hK K
     refine ⟨(), trivial, ⟨rfl, rfl, rfl, rfl, rfl, trivial⟩, ?_, (by trivial)⟩; simp only [if_pos h5]; rw [← hJ, sd_0]
    (try simp only [hcS] at hc); have hc5 := hc; have h5 : ¬ i2 - a ≥ 2 := (by omega)
    refine AW.skip ?_
    refine ⟨(), trivial, ⟨rfl, rfl, rfl, rfl, rfl, trivial⟩, ?_, rfl⟩; simp only [if_neg h5]
   intro _ ρ4 _; simp only [updL]; generalize hd3 : (if i2 - a ≥ 2 then Go.Sort.shiftDown befB (i2 - 1) (Go.Sort.swp dk i2 (i2 - 1)) else (Go.Sort.swp dk i2 (i2 - 1))) = d3; have hs3 : d3.size = d.size := (by rw [← hd3, ← hszw]; split; exact sd_size _ _; rfl); have hstep := pI_step (lt := befB) (s := s) hse he3 h4 rfl hd3; rw [hP] at hstep
   (refine AW.seq_k ?_; intro K hK)
   refine AW.region ?_
   refine awP (op_move rfl rfl) ?_; (simp only [nA, ↓reduceIte])
   refine awP (op_move rfl rfl) ?_; (simp only [nA, ↓reduceIte])
   (refine awP (op_subi rfl rfl rfl (by omega)) ?_); (try simp only [nA, Nat.reduceBEq, Nat.reduceEqDiff, ↓reduceIte, Nat.reduceAdd, Nat.reduceSub])
   refine awP (op_geq rfl rfl rfl) ?_; (try simp only [nA, Nat.reduceBEq, Nat.reduceEqDiff, ↓reduceIte, Nat.reduceAdd, Nat.reduceSub])
   refine AWL.nil ?_
   (refine hK _ ?_; clear hK K; (skip))
   refine AW.cond rfl rfl rfl (fun hc => ?_) (fun hc => ?_)
   ·
    (try simp only [hcS] at hc); have hc8 := hc; have h8 : b - i2 ≥ 2 := (by omega); rw [if_pos h8] at hstep
    (refine AW.seq_k ?_; intro K hK)
    refine AW.region ?_
    refine awP (op_move rfl rfl) ?_; (simp only [nA, ↓reduceIte])
    (refine awP (op_addi rfl rfl rfl (by omega)) ?_); (try simp only [nA, Nat.reduceBEq, Nat.reduceEqDiff, ↓reduceIte, Nat.reduceAdd, Nat.reduceSub])
    refine awP (op_assign rfl rfl) ?_; (simp only [nA])
    refine AWL.nil ?_
    (refine hK _ ?_; clear hK K; (skip))
    refine AW.block ?_
    refine AW.loopI (fun (q : Nat × Array Piece) => [(1, .v (.int .i64 a)), (2, .v (.int .i64 b)), (3, .ptr 1 1 0 0), (7, .v (.int .i64 (i2 : Nat))), (8, .v (.int .i64 ((5 : Int) - ((s + 1 : Nat) : Int)))), (10, .v (.int .i64 (q.1 : Nat)))]) (fun q => ⟨[(0, srt u q.2), (1, .own 114 [dataW u])], 2⟩) (fun q => i2 + 1 ≤ q.1 ∧ q.1 ≤ b ∧ q.2.size = d.size ∧ Go.Sort.shiftUp befB b q.1 q.2 = Go.Sort.shiftUp befB b (i2 + 1) d3) (fun q => b - q.1) (i2 + 1, d3) ⟨Nat.le_refl _, by dsimp only; omega, hs3, rfl⟩ ⟨rfl, rfl, rfl, rfl, rfl, vint (by simp), trivial⟩ rfl ?_; rintro ⟨k, dj⟩ ρ5 ⟨hk1, hk2, hszj, hJ⟩; dsimp only at hk1 hk2 hszj hJ ⊢; simp only [updL]
    (refine AW.seq_k ?_; intro K hK)
    (refine AW.seq_k ?_; intro K hK)
    refine AW.region ?_
    refine awP (op_move rfl rfl) ?_; (simp only [nA, ↓reduceIte])
    refine awP (op_move rfl rfl) ?_; (simp only [nA, ↓reduceIte])
    refine awP (op_lss rfl rfl rfl) ?_; (try simp only [nA, Nat.reduceBEq, Nat.reduceEqDiff, ↓reduceIte, Nat.reduceAdd, Nat.reduceSub])
    refine AWL.nil ?_
    (refine hK _ ?_; clear hK K; (skip))
    refine AW.cond rfl rfl rfl (fun hc => ?_) (fun hc => ?_)
    ·
     (try simp only [hcS] at hc); have hc9 := hc; have h9 : k < b := (by omega)
     refine AW.skip ?_
     (refine hK _ ?_; clear hK K; (skip))
     (refine AW.seq_k ?_; intro K hK)
     refine AW.block ?_
     (refine AW.seq_k ?_; intro K hK)
     (refine AW.seq_k ?_; intro K hK)
     refine AW.region ?_
     (refine awP (op_fa_ptr rfl rfl rfl fl114_0 (by exact sz2) (by decide) rfl) ?_); (try simp only [nA, Nat.reduceBEq, Nat.reduceEqDiff, ↓reduceIte, Nat.reduceAdd, Nat.reduceSub])
     (refine awR (op_load_ptr1 rfl rfl rfl rfl ag87 rfl rfl) ?_); (try simp only [nA, Nat.reduceBEq, Nat.reduceEqDiff, ↓reduceIte, Nat.reduceAdd, Nat.reduceSub])
     refine awP (op_move rfl rfl) ?_; (simp only [nA, ↓reduceIte])
     refine awP (op_move rfl rfl) ?_; (simp only [nA, ↓reduceIte])
     (refine awP (op_subi rfl rfl rfl (by omega)) ?_); (try simp only [nA, Nat.reduceBEq, Nat.reduceEqDiff, ↓reduceIte, Nat.reduceAdd, Nat.reduceSub])
     refine awJ (OpQ.j (op_lt (r := 0) (d := dj) rfl rfl rfl rfl rfl (by omega) (by omega) (by omega))) ?_; (try simp only [nA, Nat.reduceBEq, Nat.reduceEqDiff, ↓reduceIte, Nat.reduceAdd, Nat.reduceSub])
     refine awP (op_not rfl rfl rfl) ?_; (try simp only [nA, Nat.reduceBEq, Nat.reduceEqDiff, ↓reduceIte, Nat.reduceAdd, Nat.reduceSub])
     refine AWL.nil ?_
     (refine hK _ ?_; clear hK K; (skip))
     refine AW.cond rfl rfl rfl (fun hc => ?_) (fun hc => ?_)
     ·
      (try simp only [hcS] at hc); have hc10 := hc; simp only [Int.toNat_natCast, Bool.not_eq_true', Bool.not_eq_false', show ((k : Int) - 1).toNat = k - 1 by omega] at hc
      refine AW.exit ?_; (try simp only [thenE, inBlk, Nat.reduceEqDiff, ↓reduceIte])
      clear hK K
      clear hK K
      (try simp only [thenE, inBlk, Nat.reduceEqDiff, ↓reduceIte])
      (refine hK _ ?_; clear hK K; (skip))
      refine AW.region ?_
      refine awP (op_move rfl rfl) ?_; (simp only [nA, ↓reduceIte])
      (refine awP (op_addi rfl rfl rfl (by omega)) ?_); (try simp only [nA, Nat.reduceBEq, Nat.reduceEqDiff, ↓reduceIte, Nat.reduceAdd, Nat.reduceSub])
      refine awP (op_assign rfl rfl) ?_; (simp only [nA])
      refine AWL.nil ?_
      exact ⟨(s, i2, dj), ⟨(by dsimp only; omega), (by dsimp only; omega), (by dsimp only; omega), hszj, (by dsimp only; rw [hstep, ← hJ, su_stop h9 hc])⟩, (by dsimp only; omega), ⟨rfl, rfl, rfl, rfl, vint (by dsimp only; omega), trivial⟩, rfl, (by rfl)⟩
     (try simp only [hcS] at hc); have hc10 := hc; simp only [Int.toNat_natCast, Bool.not_eq_true', Bool.not_eq_false', show ((k : Int) - 1).toNat = k - 1 by omega] at hc
     refine AW.skip ?_
     (refine hK _ ?_; clear hK K; (skip))
     refine AW.region ?_
     (refine awP (op_fa_ptr rfl rfl rfl fl114_1 (by exact sz2) (by decide) rfl) ?_); (try simp only [nA, Nat.reduceBEq, Nat.reduceEqDiff, ↓reduceIte, Nat.reduceAdd, Nat.reduceSub])
     (refine awR (op_load_ptr1 rfl rfl rfl rfl ag108 rfl rfl) ?_); (try simp only [nA, Nat.reduceBEq, Nat.reduceEqDiff, ↓reduceIte, Nat.reduceAdd, Nat.reduceSub])
     refine awP (op_move rfl rfl) ?_; (simp only [nA, ↓reduceIte])
     refine awP (op_move rfl rfl) ?_; (simp only [nA, ↓reduceIte])
     (refine awP (op_subi rfl rfl rfl (by omega)) ?_); (try simp only [nA, Nat.reduceBEq, Nat.reduceEqDiff, ↓reduceIte, Nat.reduceAdd, Nat.reduceSub])
     refine awJ (op_sw (r := 0) (d := dj) rfl rfl rfl rfl rfl (by omega) (by omega) rfl) ?_; (try simp only [nA, Nat.reduceBEq, Nat.reduceEqDiff, ↓reduceIte, Nat.reduceAdd, Nat.reduceSub])
     refine AWL.nil ?_
     (try simp only [thenE, inBlk, Nat.reduceEqDiff, ↓reduceIte])
     (refine hK _ ?_; clear hK K; (skip))
     refine AW.region ?_
     refine awP (op_move rfl rfl) ?_; (simp only [nA, ↓reduceIte])
     (refine awP (op_addi rfl rfl rfl (by omega)) ?_); (try simp only [nA, Nat.reduceBEq, Nat.reduceEqDiff, ↓reduceIte, Nat.reduceAdd, Nat.reduceSub])
     refine awP (op_assign rfl rfl) ?_; (simp only [nA])
     skip
     refine AWL.nil ?_
     refine ⟨(k + 1, Go.Sort.swp dj k (k - 1)), ⟨by dsimp only; omega, by dsimp only; omega, by dsimp only; rw [Go.Sort.size_swp, hszj], by dsimp only; rw [← hJ]; exact (su_step h9 hc).symm⟩, by dsimp only; omega, ⟨rfl, rfl, rfl, rfl, rfl, vint (by simp), trivial⟩, (by simp only [Int.toNat_natCast, show ((k : Int) - 1).toNat = k - 1 by omega]), (by rfl)⟩
    (try simp only [hcS] at hc); have hc9 := hc; have h9 : ¬ k < b := (by omega)
    refine AW.exit ?_; (try simp only [thenE, inBlk, Nat.reduceEqDiff, ↓reduceIte])
    clear hK K
    (try simp only [thenE, inBlk, Nat.reduceEqDiff, ↓reduceIte])
    (refine hK _ ?_; clear hK K; (skip))
    refine AW.region ?_
    refine awP (op_move rfl rfl) ?_; (simp only [nA, ↓reduceIte])
    (refine awP (op_addi rfl rfl rfl (by omega)) ?_); (try simp only [nA, Nat.reduceBEq, Nat.reduceEqDiff, ↓reduceIte, Nat.reduceAdd, Nat.reduceSub])
    refine awP (op_assign rfl rfl) ?_; (simp only [nA])
    refine AWL.nil ?_
    exact ⟨(s, i2, dj), ⟨(by dsimp only; omega), (by dsimp only; omega), (by dsimp only; omega), hszj, (by dsimp only; rw [hstep, ← hJ, su_end h9])⟩, (by dsimp only; omega), ⟨rfl, rfl, rfl, rfl, vint (by dsimp only; omega), trivial⟩, rfl, (by rfl)⟩
   (try simp only [hcS] at hc); have hc8 := hc; have h8 : ¬ b - i2 ≥ 2 := (by omega); rw [if_neg h8] at hstep
   refine AW.skip ?_
   (try simp only [thenE, inBlk, Nat.reduceEqDiff, ↓reduceIte])
   (refine hK _ ?_; clear hK K; (skip))
   refine AW.region ?_
   refine awP (op_move rfl rfl) ?_; (simp only [nA, ↓reduceIte])
   (refine awP (op_addi rfl rfl rfl (by omega)) ?_); (try simp only [nA, Nat.reduceBEq, Nat.reduceEqDiff, ↓reduceIte, Nat.reduceAdd, Nat.reduceSub])
   refine awP (op_assign rfl rfl) ?_; (simp only [nA])
   refine AWL.nil ?_
   exact ⟨(s, i2, d3), ⟨(by dsimp only; omega), (by dsimp only; omega), (by dsimp only; omega), hs3, (by dsimp only; rw [hstep])⟩, (by dsimp only; omega), ⟨rfl, rfl, rfl, rfl, vint (by dsimp only; omega), trivial⟩, rfl, (by rfl)⟩
  (try simp only [hcS] at hc); have hc1 := hc; obtain rfl : s = 0 := (by omega)
  refine AW.exit ?_; (try simp only [thenE, inBlk, Nat.reduceEqDiff, ↓reduceIte])
  clear hK K
  (refine hK _ ?_; clear hK K; (skip))
  (refine AW.seq_k ?_; intro K hK)
  refine AW.region ?_
  refine awP (op_assign rfl rfl) ?_; (try simp only [nA, Nat.reduceBEq, Nat.reduceEqDiff, ↓reduceIte, Nat.reduceAdd, Nat.reduceSub])
  refine AWL.nil ?_
  (refine hK _ ?_; clear hK K; (skip))
  skip
  refine AW.ret ?_; (try simp only [thenE, inBlk, Nat.reduceEqDiff, ↓reduceIte]); rw [← hP]; exact RQ.of (.inl rfl) rfl (.tmp (bl rfl) rfl rfl .nil) (by simp) rfl (one_out rfl)
end Go.Proofs.YtmdohphcolffmaaGreat
namespace Go.Proofs.YtmdohphcolffmaaGreat
open Go.RowKit
set_option linter.unusedSimpArgs false
set_option linter.unusedVariables false
set_option maxRecDepth 100000
section
open Go.Sort
variable {p : Piece → Bool} {lt : Piece → Piece → Bool} {d : Array Piece} {i j : Nat}
theorem up_pos (h : i ≤ j) (h2 : p d[i]! = true) : scanUp p d j i = scanUp p d j (i + 1) := by rw [scanUp, if_pos (by simp [h, h2])]
theorem up_neg (h : ¬ (i ≤ j ∧ p d[i]! = true)) : scanUp p d j i = i := by rw [scanUp, if_neg (by simpa using h)]
theorem down_pos (h0 : 0 < j) (h : i ≤ j) (h2 : p d[j]! = true) : scanDown p d i j = scanDown p d i (j - 1) := by
  obtain ⟨j, rfl⟩ : ∃ q, j = q + 1 := ⟨j - 1, by omega⟩
  rw [scanDown, if_pos (by simp [h, h2])]; rfl
theorem down_neg (h : ¬ (i ≤ j ∧ p d[j]! = true)) : scanDown p d i j = j := by
  cases j with
  | zero => rfl
  | succ j => rw [scanDown, if_neg (by simpa using h)]
theorem part_stop {a i2 j2 : Nat} (h1 : scanUp (fun x => lt x d[a]!) d j i = i2) (h2 : scanDown (fun x => !lt x d[a]!) d i2 j = j2) (h : j2 < i2) : partLoop lt a i j d = (j2, d) := by
  rw [partLoop]; simp only [h1, h2]; rw [if_pos h]
theorem part_step {a i2 j2 : Nat} (h1 : scanUp (fun x => lt x d[a]!) d j i = i2) (h2 : scanDown (fun x => !lt x d[a]!) d i2 j = j2) (h : ¬ j2 < i2) (hg : (j2 - 1) + 1 - (i2 + 1) < j + 1 - i) : partLoop lt a i j d = partLoop lt a (i2 + 1) (j2 - 1) (swp d i2 j2) := by
  rw [partLoop]; simp only [h1, h2]; rw [if_neg h, dif_pos hg]
end
set_option maxHeartbeats 8000000 in
theorem C102 {u : Value} {d : Array Piece} {a b pv : Nat} (hab : a < b) (hp : a ≤ pv ∧ pv < b) (hb : b ≤ d.size) (hl : d.size ≤ 1000) : Fn Tryz.prog 102 [srt u d] [.agg (dataW u), .v (.int .i64 a), .v (.int .i64 b), .v (.int .i64 pv)] [.v (.int .i64 (Go.Sort.partition befB d a b pv).1), .v (.bool (Go.Sort.partition befB d a b pv).2.1)] [srt u (Go.Sort.partition befB d a b pv).2.2] := by
  refine Spec.body Tryz.func102 rfl Tryz.ntmps102 (by simp) rfl ?_; intro S0 own0 v0 w0
  (refine AW.seq_k ?_; intro K hK)
  refine AW.region ?_
  refine awJ (op_box rfl rfl rfl sz114 rfl) ?_; (simp only [nA, Nat.reduceBEq, Nat.reduceEqDiff, ↓reduceIte])
  refine awP (op_assign rfl rfl) ?_; (try simp only [nA, Nat.reduceBEq, Nat.reduceEqDiff, ↓reduceIte, Nat.reduceAdd, Nat.reduceSub])
  refine awP (op_assign rfl rfl) ?_; (try simp only [nA, Nat.reduceBEq, Nat.reduceEqDiff, ↓reduceIte, Nat.reduceAdd, Nat.reduceSub])
  refine AWL.nil ?_
  (refine hK _ ?_; clear hK K; (try simp only [nA, Nat.reduceBEq, Nat.reduceEqDiff, ↓reduceIte, Nat.reduceAdd, Nat.reduceSub]))
  (refine AW.seq_k ?_; intro K hK)
  refine AW.region ?_
  (refine awP (op_fa_ptr rfl rfl rfl fl114_1 (by exact sz2) (by decide) rfl) ?_); (try simp only [nA, Nat.reduceBEq, Nat.reduceEqDiff, ↓reduceIte, Nat.reduceAdd, Nat.reduceSub])
  (refine awR (op_load_ptr1 rfl rfl rfl rfl ag108 rfl rfl) ?_); (try simp only [nA, Nat.reduceBEq, Nat.reduceEqDiff, ↓reduceIte, Nat.reduceAdd, Nat.reduceSub])
  refine awP (op_move rfl rfl) ?_; (simp only [nA, ↓reduceIte])
  refine awP (op_move rfl rfl) ?_; (simp only [nA, ↓reduceIte])
  refine awJ (op_sw (r := 0) (d := d) rfl rfl rfl rfl rfl (by omega) (by omega) rfl) ?_; (try simp only [nA, Nat.reduceBEq, Nat.reduceEqDiff, ↓reduceIte, Nat.reduceAdd, Nat.reduceSub])
  refine AWL.nil ?_
  (refine hK _ ?_; clear hK K; (skip))
  (refine AW.seq_k ?_; intro K hK)
  refine AW.region ?_
  refine awP (op_move rfl rfl) ?_; (simp only [nA, ↓reduceIte])
  (refine awP (op_addi rfl rfl rfl (by omega)) ?_); (try simp only [nA, Nat.reduceBEq, Nat.reduceEqDiff, ↓reduceIte, Nat.reduceAdd, Nat.reduceSub])
  refine awP (op_move rfl rfl) ?_; (simp only [nA, ↓reduceIte])
  (refine awP (op_subi rfl rfl rfl (by omega)) ?_); (try simp only [nA, Nat.reduceBEq, Nat.reduceEqDiff, ↓reduceIte, Nat.reduceAdd, Nat.reduceSub])
  refine awP (op_assign rfl rfl) ?_; (simp only [nA, ↓reduceIte])
  refine awP (op_assign rfl rfl) ?_; (simp only [nA, ↓reduceIte])
  refine AWL.nil ?_
  (refine hK _ ?_; clear hK K; (skip))
  (refine AW.seq_k ?_; intro K hK)
  refine AW.block ?_
  generalize hd0 : Go.Sort.swp d a pv = dk; have hs : dk.size = d.size := (by rw [← hd0]; exact Go.Sort.size_swp _ _ _); refine AW.loopI (fun (i : Nat) => [(1, .v (.int .i64 a)), (4, .ptr 1 1 0 0), (10, .v (.int .i64 (i : Nat))), (11, .v (.int .i64 ((b - 1 : Nat) : Int)))]) (fun _ => ⟨[(0, srt u dk), (1, .own 114 [dataW u])], 2⟩) (fun i => a < i ∧ i ≤ b ∧ Go.Sort.scanUp (fun x => befB x dk[a]!) dk (b - 1) i = Go.Sort.scanUp (fun x => befB x dk[a]!) dk (b - 1) (a + 1)) (fun i => b - i) (a + 1) ⟨by omega, by omega, rfl⟩ ⟨rfl, rfl, vint (by omega), vint (by omega), trivial⟩ (by rw [← hd0]; simp only [Int.toNat_natCast]; rfl) ?_; rintro i ρ ⟨hi1, hi2, hI⟩; simp only [updL]
  (refine AW.seq_k ?_; intro K hK)
  (refine AW.seq_k ?_; intro K hK)
  refine AW.region (AWL.quiet ?_)
  refine aqP (op_move rfl rfl) ?_; (simp only [nA, ↓reduceIte])
  refine aqP (op_move rfl rfl) ?_; (simp only [nA, ↓reduceIte])
  refine aqP (op_leq rfl rfl rfl) ?_; (try simp only [nA, Nat.reduceBEq, Nat.reduceEqDiff, ↓reduceIte, Nat.reduceAdd, Nat.reduceSub])
  refine aqP (op_move rfl rfl) ?_; (simp only [nA])
  refine' aqAnd' [_, _, _, _, _] [25,26,27,28,29] rfl rfl rfl rfl rfl rfl rfl rfl rfl rfl rfl rfl (fun hb => ?_) ?_; rotate_left
  ·
   (try simp only [hcS] at hb)
   (refine aqP (op_fa_ptr rfl rfl rfl fl114_0 (by exact sz2) (by decide) rfl) ?_); (try simp only [nA, Nat.reduceBEq, Nat.reduceEqDiff, ↓reduceIte, Nat.reduceAdd, Nat.reduceSub])
   (refine aqR (op_load_ptr1 rfl rfl rfl rfl ag87 rfl rfl) ?_); (try simp only [nA, Nat.reduceBEq, Nat.reduceEqDiff, ↓reduceIte, Nat.reduceAdd, Nat.reduceSub])
   refine aqP (op_move rfl rfl) ?_; (simp only [nA, ↓reduceIte])
   refine aqP (op_move rfl rfl) ?_; (simp only [nA, ↓reduceIte])
   refine aqQ (op_lt (r := 0) (d := dk) rfl rfl rfl rfl rfl (by omega) (by omega) (by omega)) ?_; (try simp only [nA, Nat.reduceBEq, Nat.reduceEqDiff, ↓reduceIte, Nat.reduceAdd, Nat.reduceSub])
   (refine aqSeg rfl rfl rfl ?_; repeat (first | exact fun _ _ => rfl | refine upd_out rfl ?_))
  refine AQ.nil ?_
  (refine hK _ ?_; clear hK K; (skip))
  refine AW.cond rfl rfl rfl (fun hc => ?_) (fun hc => ?_)
  ·
   (try simp only [hcS] at hc); have hc1 := hc; simp only [Int.toNat_natCast, Bool.and_eq_true, Bool.not_eq_true', decide_eq_true_eq] at hc
   refine AW.skip ?_
   (refine hK _ ?_; clear hK K; (skip))
   refine AW.block ?_
   refine AW.region ?_
   refine awP (op_move rfl rfl) ?_; (simp only [nA, Nat.reduceEqDiff, ↓reduceIte])
   (refine awP (op_addi rfl rfl rfl (by omega)) ?_); (try simp only [nA, Nat.reduceBEq, Nat.reduceEqDiff, ↓reduceIte, Nat.reduceAdd, Nat.reduceSub])
   refine awP (op_assign rfl rfl) ?_; (simp only [nA])
   refine AWL.nil ?_
   (try simp only [thenE, inBlk, Nat.reduceEqDiff, ↓reduceIte])
   refine ⟨i + 1, ⟨by omega, by omega, by rw [← hI]; exact (up_pos (p := fun x => befB x dk[a]!) (d := dk) (i := i) (j := b - 1) (by omega) hc.2).symm⟩, by omega, ⟨rfl, rfl, rfl, rfl, trivial⟩, (by trivial), (by trivial)⟩
  (try simp only [hcS] at hc); have hc1 := hc; simp only [Int.toNat_natCast, Bool.and_eq_true, Bool.not_eq_true', decide_eq_true_eq] at hc; have hU : Go.Sort.scanUp (fun x => befB x dk[a]!) dk (b - 1) (a + 1) = i := (by rw [← hI]; exact up_neg (by rintro ⟨h1, h2⟩; rcases hc with h | h; omega; simp [h2] at h))
  refine AW.exit ?_; (try simp only [thenE, inBlk, Nat.reduceEqDiff, ↓reduceIte])
  clear hK K
  (refine hK _ ?_; clear hK K; (skip))
  (refine AW.seq_k ?_; intro K hK)
  refine AW.block ?_
  refine AW.loopI (fun (j : Nat) => [(1, .v (.int .i64 a)), (4, .ptr 1 1 0 0), (10, .v (.int .i64 (i : Nat))), (11, .v (.int .i64 (j : Nat)))]) (fun _ => ⟨[(0, srt u dk), (1, .own 114 [dataW u])], 2⟩) (fun j => i ≤ j + 1 ∧ j ≤ b - 1 ∧ Go.Sort.scanDown (fun x => !befB x dk[a]!) dk i j = Go.Sort.scanDown (fun x => !befB x dk[a]!) dk i (b - 1)) (fun j => j) (b - 1) ⟨by omega, by omega, rfl⟩ ⟨rfl, rfl, rfl, rfl, trivial⟩ rfl ?_; rintro j ρ ⟨hj1, hj2, hJ⟩; simp only [updL]
  (refine AW.seq_k ?_; intro K hK)
  (refine AW.seq_k ?_; intro K hK)
  refine AW.region (AWL.quiet ?_)
  refine aqP (op_move rfl rfl) ?_; (simp only [nA, ↓reduceIte])
  refine aqP (op_move rfl rfl) ?_; (simp only [nA, ↓reduceIte])
  refine aqP (op_leq rfl rfl rfl) ?_; (try simp only [nA, Nat.reduceBEq, Nat.reduceEqDiff, ↓reduceIte, Nat.reduceAdd, Nat.reduceSub])
  refine aqP (op_move rfl rfl) ?_; (simp only [nA])
  refine' aqAnd' [_, _, _, _, _, _] [37,38,39,40,41,42] rfl rfl rfl rfl rfl rfl rfl rfl rfl rfl rfl rfl (fun hb => ?_) ?_; rotate_left
  ·
   (try simp only [hcS] at hb)
   (refine aqP (op_fa_ptr rfl rfl rfl fl114_0 (by exact sz2) (by decide) rfl) ?_); (try simp only [nA, Nat.reduceBEq, Nat.reduceEqDiff, ↓reduceIte, Nat.reduceAdd, Nat.reduceSub])
   (refine aqR (op_load_ptr1 rfl rfl rfl rfl ag87 rfl rfl) ?_); (try simp only [nA, Nat.reduceBEq, Nat.reduceEqDiff, ↓reduceIte, Nat.reduceAdd, Nat.reduceSub])
   refine aqP (op_move rfl rfl) ?_; (simp only [nA, ↓reduceIte])
   refine aqP (op_move rfl rfl) ?_; (simp only [nA, ↓reduceIte])
   refine aqQ (op_lt (r := 0) (d := dk) rfl rfl rfl rfl rfl (by omega) (by omega) (by omega)) ?_; (try simp only [nA, Nat.reduceBEq, Nat.reduceEqDiff, ↓reduceIte, Nat.reduceAdd, Nat.reduceSub])
   refine aqP (op_not rfl rfl rfl) ?_; (try simp only [nA, Nat.reduceBEq, Nat.reduceEqDiff, ↓reduceIte, Nat.reduceAdd, Nat.reduceSub])
   (refine aqSeg rfl rfl rfl ?_; repeat (first | exact fun _ _ => rfl | refine upd_out rfl ?_))
  refine AQ.nil ?_
  (refine hK _ ?_; clear hK K; (skip))
  refine AW.cond rfl rfl rfl (fun hc => ?_) (fun hc => ?_)
  ·
   (try simp only [hcS] at hc); have hc2 := hc; simp only [Int.toNat_natCast, Bool.and_eq_true, Bool.not_eq_true', decide_eq_true_eq] at hc
   refine AW.skip ?_
   (refine hK _ ?_; clear hK K; (skip))
   refine AW.block ?_
   refine AW.region ?_
   refine awP (op_move rfl rfl) ?_; (simp only [nA, Nat.reduceEqDiff, ↓reduceIte])
   (refine awP (op_subi rfl rfl rfl (by omega)) ?_); (try simp only [nA, Nat.reduceBEq, Nat.reduceEqDiff, ↓reduceIte, Nat.reduceAdd, Nat.reduceSub])
   refine awP (op_assign rfl rfl) ?_; (simp only [nA])
   refine AWL.nil ?_
   (try simp only [thenE, inBlk, Nat.reduceEqDiff, ↓reduceIte])
   refine ⟨j - 1, ⟨by omega, by omega, by rw [← hJ]; exact (down_pos (p := fun x => !befB x dk[a]!) (d := dk) (i := i) (j := j) (by omega) (by omega) (by simp [hc.2])).symm⟩, by omega, ⟨rfl, rfl, rfl, vint (by omega), trivial⟩, (by trivial), (by trivial)⟩
  (try simp only [hcS] at hc); have hc2 := hc; simp only [Int.toNat_natCast, Bool.and_eq_true, Bool.not_eq_true', decide_eq_true_eq] at hc; have hD : Go.Sort.scanDown (fun x => !befB x dk[a]!) dk i (b - 1) = j := (by rw [← hJ]; exact down_neg (by rintro ⟨h1, h2⟩; rcases hc with h | h; omega; simp [h] at h2))
  refine AW.exit ?_; (try simp only [thenE, inBlk, Nat.reduceEqDiff, ↓reduceIte])
  clear hK K
  (refine hK _ ?_; clear hK K; (skip))
  (refine AW.seq_k ?_; intro K hK)
  (refine AW.seq_k ?_; intro K hK)
  refine AW.region ?_
  refine awP (op_move rfl rfl) ?_; (simp only [nA, Nat.reduceEqDiff, ↓reduceIte])
  refine awP (op_move rfl rfl) ?_; (simp only [nA, Nat.reduceEqDiff, ↓reduceIte])
  refine awP (op_gtr rfl rfl rfl) ?_; (try simp only [nA, Nat.reduceBEq, Nat.reduceEqDiff, ↓reduceIte, Nat.reduceAdd, Nat.reduceSub])
  refine AWL.nil ?_
  (refine hK _ ?_; clear hK K; (skip))
  refine AW.cond rfl rfl rfl (fun hc => ?_) (fun hc => ?_)
  ·
   (try simp only [hcS] at hc); have hc3 := hc
   (refine AW.seq_k ?_; intro K hK)
   refine AW.region ?_
   (refine awP (op_fa_ptr rfl rfl rfl fl114_1 (by exact sz2) (by decide) rfl) ?_); (try simp only [nA, Nat.reduceBEq, Nat.reduceEqDiff, ↓reduceIte, Nat.reduceAdd, Nat.reduceSub])
   (refine awR (op_load_ptr1 rfl rfl rfl rfl ag108 rfl rfl) ?_); (try simp only [nA, Nat.reduceBEq, Nat.reduceEqDiff, ↓reduceIte, Nat.reduceAdd, Nat.reduceSub])
   refine awP (op_move rfl rfl) ?_; (simp only [nA, Nat.reduceEqDiff, ↓reduceIte])
   refine awP (op_move rfl rfl) ?_; (simp only [nA, Nat.reduceEqDiff, ↓reduceIte])
   refine awJ (op_sw (r := 0) (d := dk) rfl rfl rfl rfl rfl (by omega) (by omega) rfl) ?_; (try simp only [nA, Nat.reduceBEq, Nat.reduceEqDiff, ↓reduceIte, Nat.reduceAdd, Nat.reduceSub])
   refine AWL.nil ?_
   (refine hK _ ?_; clear hK K; (skip))
   (refine AW.seq_k ?_; intro K hK)
   refine AW.region ?_
   refine awP (op_move rfl rfl) ?_; (simp only [nA, Nat.reduceEqDiff, ↓reduceIte])
   refine awP (op_assign rfl rfl) ?_; (simp only [nA])
   refine awP (op_assign rfl rfl) ?_; (try simp only [nA, Nat.reduceBEq, Nat.reduceEqDiff, ↓reduceIte, Nat.reduceAdd, Nat.reduceSub])
   refine AWL.nil ?_
   (refine hK _ ?_; clear hK K; (skip))
   skip
   refine AW.ret ?_; (try simp only [thenE, inBlk, Nat.reduceEqDiff, ↓reduceIte]); rw [show Go.Sort.partition befB d a b pv = (j, true, Go.Sort.swp dk j a) by unfold Go.Sort.partition; simp only [hd0, hU, hD]; rw [if_pos (by omega)]]; simp only [Int.toNat_natCast]; exact RQ.of (.inl rfl) rfl (.tmp (bl rfl) rfl rfl (.tmp (bl rfl) rfl rfl .nil)) (by simp) rfl (one_out rfl)
  (try simp only [hcS] at hc); have hc3 := hc
  refine AW.skip ?_
  (refine hK _ ?_; clear hK K; (skip))
  (refine AW.seq_k ?_; intro K hK)
  refine AW.region ?_
  (refine awP (op_fa_ptr rfl rfl rfl fl114_1 (by exact sz2) (by decide) rfl) ?_); (try simp only [nA, Nat.reduceBEq, Nat.reduceEqDiff, ↓reduceIte, Nat.reduceAdd, Nat.reduceSub])
  (refine awR (op_load_ptr1 rfl rfl rfl rfl ag108 rfl rfl) ?_); (try simp only [nA, Nat.reduceBEq, Nat.reduceEqDiff, ↓reduceIte, Nat.reduceAdd, Nat.reduceSub])
  refine awP (op_move rfl rfl) ?_; (simp only [nA, Nat.reduceEqDiff, ↓reduceIte])
  refine awP (op_move rfl rfl) ?_; (simp only [nA, Nat.reduceEqDiff, ↓reduceIte])
  refine awJ (op_sw (r := 0) (d := dk) rfl rfl rfl rfl rfl (by omega) (by omega) rfl) ?_; (try simp only [nA, Nat.reduceBEq, Nat.reduceEqDiff, ↓reduceIte, Nat.reduceAdd, Nat.reduceSub])
  refine AWL.nil ?_
  (refine hK _ ?_; clear hK K; (skip))
  (refine AW.seq_k ?_; intro K hK)
  refine AW.region ?_
  refine awP (op_move rfl rfl) ?_; (simp only [nA, Nat.reduceEqDiff, ↓reduceIte])
  (refine awP (op_addi rfl rfl rfl (by omega)) ?_); (try simp only [nA, Nat.reduceBEq, Nat.reduceEqDiff, ↓reduceIte, Nat.reduceAdd, Nat.reduceSub])
  refine awP (op_assign rfl rfl) ?_; (simp only [nA])
  refine AWL.nil ?_
  (refine hK _ ?_; clear hK K; (skip))
  (refine AW.seq_k ?_; intro K hK)
  refine AW.region ?_
  refine awP (op_move rfl rfl) ?_; (simp only [nA, Nat.reduceEqDiff, ↓reduceIte])
  (refine awP (op_subi rfl rfl rfl (by omega)) ?_); (try simp only [nA, Nat.reduceBEq, Nat.reduceEqDiff, ↓reduceIte, Nat.reduceAdd, Nat.reduceSub])
  refine awP (op_assign rfl rfl) ?_; (simp only [nA])
  refine AWL.nil ?_
  (refine hK _ ?_; clear hK K; (skip))
  (refine AW.seq_k ?_; intro K hK)
  refine AW.block ?_
  refine AW.loopI (fun (q : Nat × Nat × Array Piece) => [(1, .v (.int .i64 a)), (4, .ptr 1 1 0 0), (10, .v (.int .i64 (q.1 : Nat))), (11, .v (.int .i64 (q.2.1 : Nat)))]) (fun q => ⟨[(0, srt u q.2.2), (1, .own 114 [dataW u])], 2⟩) (fun q => a < q.1 ∧ q.1 ≤ b ∧ a ≤ q.2.1 ∧ q.2.1 ≤ b - 1 ∧ q.2.2.size = d.size ∧ Go.Sort.partLoop befB a q.1 q.2.1 q.2.2 = Go.Sort.partLoop befB a (i + 1) (j - 1) (Go.Sort.swp dk i j)) (fun q => q.2.1 + 1 - q.1) (i + 1, j - 1, Go.Sort.swp dk i j) ⟨by dsimp only; omega, by dsimp only; omega, by dsimp only; omega, by dsimp only; omega, by rw [Go.Sort.size_swp, hs], rfl⟩ ⟨rfl, rfl, vint (by dsimp only; omega), vint (by dsimp only; omega), trivial⟩ (by simp only [Int.toNat_natCast]) ?_; rintro ⟨i2, j2, dm⟩ ρ ⟨hi2a, hi2b, hj2a, hj2b, hsm, hP⟩; dsimp only at hi2a hi2b hj2a hj2b hsm hP ⊢; simp only [updL]
  refine AW.block ?_
  (refine AW.seq_k ?_; intro K hK)
  refine AW.block ?_
  refine AW.loopI (fun (i3 : Nat) => [(1, .v (.int .i64 a)), (4, .ptr 1 1 0 0), (10, .v (.int .i64 (i3 : Nat))), (11, .v (.int .i64 (j2 : Nat)))]) (fun _ => ⟨[(0, srt u dm), (1, .own 114 [dataW u])], 2⟩) (fun i3 => i2 ≤ i3 ∧ i3 ≤ b ∧ Go.Sort.scanUp (fun x => befB x dm[a]!) dm j2 i3 = Go.Sort.scanUp (fun x => befB x dm[a]!) dm j2 i2) (fun i3 => b - i3) i2 ⟨by omega, by omega, rfl⟩ ⟨rfl, rfl, rfl, rfl, trivial⟩ rfl ?_; rintro i3 ρ ⟨hi3a, hi3b, hI3⟩; simp only [updL]
  (refine AW.seq_k ?_; intro K hK)
  (refine AW.seq_k ?_; intro K hK)
  refine AW.region (AWL.quiet ?_)
  refine aqP (op_move rfl rfl) ?_; (simp only [nA, ↓reduceIte])
  refine aqP (op_move rfl rfl) ?_; (simp only [nA, ↓reduceIte])
  refine aqP (op_leq rfl rfl rfl) ?_; (try simp only [nA, Nat.reduceBEq, Nat.reduceEqDiff, ↓reduceIte, Nat.reduceAdd, Nat.reduceSub])
  refine aqP (op_move rfl rfl) ?_; (simp only [nA])
  refine' aqAnd' [_, _, _, _, _] [68,69,70,71,72] rfl rfl rfl rfl rfl rfl rfl rfl rfl rfl rfl rfl (fun hb => ?_) ?_; rotate_left
  ·
   (try simp only [hcS] at hb)
   (refine aqP (op_fa_ptr rfl rfl rfl fl114_0 (by exact sz2) (by decide) rfl) ?_); (try simp only [nA, Nat.reduceBEq, Nat.reduceEqDiff, ↓reduceIte, Nat.reduceAdd, Nat.reduceSub])
   (refine aqR (op_load_ptr1 rfl rfl rfl rfl ag87 rfl rfl) ?_); (try simp only [nA, Nat.reduceBEq, Nat.reduceEqDiff, ↓reduceIte, Nat.reduceAdd, Nat.reduceSub])
   refine aqP (op_move rfl rfl) ?_; (simp only [nA, ↓reduceIte])
   refine aqP (op_move rfl rfl) ?_; (simp only [nA, ↓reduceIte])
   refine aqQ (op_lt (r := 0) (d := dm) rfl rfl rfl rfl rfl (by omega) (by omega) (by omega)) ?_; (try simp only [nA, Nat.reduceBEq, Nat.reduceEqDiff, ↓reduceIte, Nat.reduceAdd, Nat.reduceSub])
   (refine aqSeg rfl rfl rfl ?_; repeat (first | exact fun _ _ => rfl | refine upd_out rfl ?_))
  refine AQ.nil ?_
  (refine hK _ ?_; clear hK K; (skip))
  refine AW.cond rfl rfl rfl (fun hc => ?_) (fun hc => ?_)
  ·
   (try simp only [hcS] at hc); have hc4 := hc; simp only [Int.toNat_natCast, Bool.and_eq_true, Bool.not_eq_true', decide_eq_true_eq] at hc
   refine AW.skip ?_
   (refine hK _ ?_; clear hK K; (skip))
   refine AW.block ?_
   refine AW.region ?_
   refine awP (op_move rfl rfl) ?_; (simp only [nA, Nat.reduceEqDiff, ↓reduceIte])
   (refine awP (op_addi rfl rfl rfl (by omega)) ?_); (try simp only [nA, Nat.reduceBEq, Nat.reduceEqDiff, ↓reduceIte, Nat.reduceAdd, Nat.reduceSub])
   refine awP (op_assign rfl rfl) ?_; (simp only [nA])
   refine AWL.nil ?_
   (try simp only [thenE, inBlk, Nat.reduceEqDiff, ↓reduceIte])
   refine ⟨i3 + 1, ⟨by omega, by omega, by rw [← hI3]; exact (up_pos (p := fun x => befB x dm[a]!) (d := dm) (i := i3) (j := j2) (by omega) hc.2).symm⟩, by omega, ⟨rfl, rfl, rfl, rfl, trivial⟩, (by trivial), (by trivial)⟩
  (try simp only [hcS] at hc); have hc4 := hc; simp only [Int.toNat_natCast, Bool.and_eq_true, Bool.not_eq_true', decide_eq_true_eq] at hc; have hU2 : Go.Sort.scanUp (fun x => befB x dm[a]!) dm j2 i2 = i3 := (by rw [← hI3]; exact up_neg (by rintro ⟨h1, h2⟩; rcases hc with h | h; omega; simp [h2] at h))
  refine AW.exit ?_; (try simp only [thenE, inBlk, Nat.reduceEqDiff, ↓reduceIte])
  clear hK K
  (refine hK _ ?_; clear hK K; (skip))
  (refine AW.seq_k ?_; intro K hK)
  refine AW.block ?_
  refine AW.loopI (fun (j3 : Nat) => [(1, .v (.int .i64 a)), (4, .ptr 1 1 0 0), (10, .v (.int .i64 (i3 : Nat))), (11, .v (.int .i64 (j3 : Nat)))]) (fun _ => ⟨[(0, srt u dm), (1, .own 114 [dataW u])], 2⟩) (fun j3 => a ≤ j3 ∧ j3 ≤ j2 ∧ Go.Sort.scanDown (fun x => !befB x dm[a]!) dm i3 j3 = Go.Sort.scanDown (fun x => !befB x dm[a]!) dm i3 j2) (fun j3 => j3) j2 ⟨by omega, by omega, rfl⟩ ⟨rfl, rfl, rfl, rfl, trivial⟩ rfl ?_; rintro j3 ρ ⟨hj3a, hj3b, hJ3⟩; simp only [updL]
  (refine AW.seq_k ?_; intro K hK)
  (refine AW.seq_k ?_; intro K hK)
  refine AW.region (AWL.quiet ?_)
  refine aqP (op_move rfl rfl) ?_; (simp only [nA, ↓reduceIte])
  refine aqP (op_move rfl rfl) ?_; (simp only [nA, ↓reduceIte])
  refine aqP (op_leq rfl rfl rfl) ?_; (try simp only [nA, Nat.reduceBEq, Nat.reduceEqDiff, ↓reduceIte, Nat.reduceAdd, Nat.reduceSub])
  refine aqP (op_move rfl rfl) ?_; (simp only [nA])
  refine' aqAnd' [_, _, _, _, _, _] [80,81,82,83,84,85] rfl rfl rfl rfl rfl rfl rfl rfl rfl rfl rfl rfl (fun hb => ?_) ?_; rotate_left
  ·
   (try simp only [hcS] at hb)
   (refine aqP (op_fa_ptr rfl rfl rfl fl114_0 (by exact sz2) (by decide) rfl) ?_); (try simp only [nA, Nat.reduceBEq, Nat.reduceEqDiff, ↓reduceIte, Nat.reduceAdd, Nat.reduceSub])
   (refine aqR (op_load_ptr1 rfl rfl rfl rfl ag87 rfl rfl) ?_); (try simp only [nA, Nat.reduceBEq, Nat.reduceEqDiff, ↓reduceIte, Nat.reduceAdd, Nat.reduceSub])
   refine aqP (op_move rfl rfl) ?_; (simp only [nA, ↓reduceIte])
   refine aqP (op_move rfl rfl) ?_; (simp only [nA, ↓reduceIte])
   refine aqQ (op_lt (r := 0) (d := dm) rfl rfl rfl rfl rfl (by omega) (by omega) (by omega)) ?_; (try simp only [nA, Nat.reduceBEq, Nat.reduceEqDiff, ↓reduceIte, Nat.reduceAdd, Nat.reduceSub])
   refine aqP (op_not rfl rfl rfl) ?_; (try simp only [nA, Nat.reduceBEq, Nat.reduceEqDiff, ↓reduceIte, Nat.reduceAdd, Nat.reduceSub])
   (refine aqSeg rfl rfl rfl ?_; repeat (first | exact fun _ _ => rfl | refine upd_out rfl ?_))
  refine AQ.nil ?_
  (refine hK _ ?_; clear hK K; (skip))
  refine AW.cond rfl rfl rfl (fun hc => ?_) (fun hc => ?_)
  ·
   (try simp only [hcS] at hc); have hc5 := hc; simp only [Int.toNat_natCast, Bool.and_eq_true, Bool.not_eq_true', decide_eq_true_eq] at hc
   refine AW.skip ?_
   (refine hK _ ?_; clear hK K; (skip))
   refine AW.block ?_
   refine AW.region ?_
   refine awP (op_move rfl rfl) ?_; (simp only [nA, Nat.reduceEqDiff, ↓reduceIte])
   (refine awP (op_subi rfl rfl rfl (by omega)) ?_); (try simp only [nA, Nat.reduceBEq, Nat.reduceEqDiff, ↓reduceIte, Nat.reduceAdd, Nat.reduceSub])
   refine awP (op_assign rfl rfl) ?_; (simp only [nA])
   refine AWL.nil ?_
   (try simp only [thenE, inBlk, Nat.reduceEqDiff, ↓reduceIte])
   refine ⟨j3 - 1, ⟨by omega, by omega, by rw [← hJ3]; exact (down_pos (p := fun x => !befB x dm[a]!) (d := dm) (i := i3) (j := j3) (by omega) (by omega) (by simp [hc.2])).symm⟩, by omega, ⟨rfl, rfl, rfl, vint (by omega), trivial⟩, (by trivial), (by trivial)⟩
  (try simp only [hcS] at hc); have hc5 := hc; simp only [Int.toNat_natCast, Bool.and_eq_true, Bool.not_eq_true', decide_eq_true_eq] at hc; have hD2 : Go.Sort.scanDown (fun x => !befB x dm[a]!) dm i3 j2 = j3 := (by rw [← hJ3]; exact down_neg (by rintro ⟨h1, h2⟩; rcases hc with h | h; omega; simp [h] at h2))
  refine AW.exit ?_; (try simp only [thenE, inBlk, Nat.reduceEqDiff, ↓reduceIte])
  clear hK K
  (refine hK _ ?_; clear hK K; (skip))
  (refine AW.seq_k ?_; intro K hK)
  (refine AW.seq_k ?_; intro K hK)
  refine AW.region ?_
  refine awP (op_move rfl rfl) ?_; (simp only [nA, Nat.reduceEqDiff, ↓reduceIte])
  refine awP (op_move rfl rfl) ?_; (simp only [nA, Nat.reduceEqDiff, ↓reduceIte])
  refine awP (op_gtr rfl rfl rfl) ?_; (try simp only [nA, Nat.reduceBEq, Nat.reduceEqDiff, ↓reduceIte, Nat.reduceAdd, Nat.reduceSub])
  refine AWL.nil ?_
  (refine hK _ ?_; clear hK K; (skip))
  refine AW.cond rfl rfl rfl (fun hc => ?_) (fun hc => ?_)
  ·
   (try simp only [hcS] at hc); have hc6 := hc
   refine AW.exit ?_; (try simp only [thenE, inBlk, Nat.reduceEqDiff, ↓reduceIte])
   clear hK K
   (refine hK _ ?_; clear hK K; (skip))
   (refine AW.seq_k ?_; intro K hK)
   refine AW.region ?_
   (refine awP (op_fa_ptr rfl rfl rfl fl114_1 (by exact sz2) (by decide) rfl) ?_); (try simp only [nA, Nat.reduceBEq, Nat.reduceEqDiff, ↓reduceIte, Nat.reduceAdd, Nat.reduceSub])
   (refine awR (op_load_ptr1 rfl rfl rfl rfl ag108 rfl rfl) ?_); (try simp only [nA, Nat.reduceBEq, Nat.reduceEqDiff, ↓reduceIte, Nat.reduceAdd, Nat.reduceSub])
   refine awP (op_move rfl rfl) ?_; (simp only [nA, Nat.reduceEqDiff, ↓reduceIte])
   refine awP (op_move rfl rfl) ?_; (simp only [nA, Nat.reduceEqDiff, ↓reduceIte])
   refine awJ (op_sw (r := 0) (d := dm) rfl rfl rfl rfl rfl (by omega) (by omega) rfl) ?_; (try simp only [nA, Nat.reduceBEq, Nat.reduceEqDiff, ↓reduceIte, Nat.reduceAdd, Nat.reduceSub])
   refine AWL.nil ?_
   (refine hK _ ?_; clear hK K; (skip))
   (refine AW.seq_k ?_; intro K hK)
   refine AW.region ?_
   refine awP (op_move rfl rfl) ?_; (simp only [nA, Nat.reduceEqDiff, ↓reduceIte])
   refine awP (op_assign rfl rfl) ?_; (simp only [nA])
   refine awP (op_assign rfl rfl) ?_; (try simp only [nA, Nat.reduceBEq, Nat.reduceEqDiff, ↓reduceIte, Nat.reduceAdd, Nat.reduceSub])
   refine AWL.nil ?_
   (refine hK _ ?_; clear hK K; (skip))
   skip
   refine AW.ret ?_; (try simp only [thenE, inBlk, Nat.reduceEqDiff, ↓reduceIte]); rw [show Go.Sort.partition befB d a b pv = (j3, false, Go.Sort.swp dm j3 a) by unfold Go.Sort.partition; simp only [hd0, hU, hD]; rw [if_neg (by omega), ← hP, part_stop hU2 hD2 (by omega)]]; simp only [Int.toNat_natCast]; exact RQ.of (.inl rfl) rfl (.tmp (bl rfl) rfl rfl (.tmp (bl rfl) rfl rfl .nil)) (by simp) rfl (one_out rfl)
  (try simp only [hcS] at hc); have hc6 := hc
  refine AW.skip ?_
  (refine hK _ ?_; clear hK K; (skip))
  (refine AW.seq_k ?_; intro K hK)
  refine AW.region ?_
  (refine awP (op_fa_ptr rfl rfl rfl fl114_1 (by exact sz2) (by decide) rfl) ?_); (try simp only [nA, Nat.reduceBEq, Nat.reduceEqDiff, ↓reduceIte, Nat.reduceAdd, Nat.reduceSub])
  (refine awR (op_load_ptr1 rfl rfl rfl rfl ag108 rfl rfl) ?_); (try simp only [nA, Nat.reduceBEq, Nat.reduceEqDiff, ↓reduceIte, Nat.reduceAdd, Nat.reduceSub])
  refine awP (op_move rfl rfl) ?_; (simp only [nA, Nat.reduceEqDiff, ↓reduceIte])
  refine awP (op_move rfl rfl) ?_; (simp only [nA, Nat.reduceEqDiff, ↓reduceIte])
  refine awJ (op_sw (r := 0) (d := dm) rfl rfl rfl rfl rfl (by omega) (by omega) rfl) ?_; (try simp only [nA, Nat.reduceBEq, Nat.reduceEqDiff, ↓reduceIte, Nat.reduceAdd, Nat.reduceSub])
  refine AWL.nil ?_
  (refine hK _ ?_; clear hK K; (skip))
  (refine AW.seq_k ?_; intro K hK)
  refine AW.region ?_
  refine awP (op_move rfl rfl) ?_; (simp only [nA, Nat.reduceEqDiff, ↓reduceIte])
  (refine awP (op_addi rfl rfl rfl (by omega)) ?_); (try simp only [nA, Nat.reduceBEq, Nat.reduceEqDiff, ↓reduceIte, Nat.reduceAdd, Nat.reduceSub])
  refine awP (op_assign rfl rfl) ?_; (simp only [nA])
  refine AWL.nil ?_
  (refine hK _ ?_; clear hK K; (skip))
  refine AW.region ?_
  refine awP (op_move rfl rfl) ?_; (simp only [nA, Nat.reduceEqDiff, ↓reduceIte])
  (refine awP (op_subi rfl rfl rfl (by omega)) ?_); (try simp only [nA, Nat.reduceBEq, Nat.reduceEqDiff, ↓reduceIte, Nat.reduceAdd, Nat.reduceSub])
  refine awP (op_assign rfl rfl) ?_; (simp only [nA])
  refine AWL.nil ?_
  (try simp only [thenE, inBlk, Nat.reduceEqDiff, ↓reduceIte])
  refine ⟨(i3 + 1, j3 - 1, Go.Sort.swp dm i3 j3), ⟨by dsimp only; omega, by dsimp only; omega, by dsimp only; omega, by dsimp only; omega, by rw [Go.Sort.size_swp, hsm], by rw [← hP]; exact (part_step hU2 hD2 (by omega) (by omega)).symm⟩, by dsimp only; omega, ⟨rfl, rfl, vint (by dsimp only; omega), vint (by dsimp only; omega), trivial⟩, (by simp only [Int.toNat_natCast]), (by trivial)⟩
end Go.Proofs.YtmdohphcolffmaaGreat
namespace Go.Proofs.YtmdohphcolffmaaGreat
open Go.RowKit
set_option linter.unusedSimpArgs false
set_option linter.unusedVariables false
set_option maxRecDepth 100000
section
open Go.Sort
variable {lt : Piece → Piece → Bool} {d : Array Piece} {i j : Nat}
theorem peq_stop {a i2 j2 : Nat} (h1 : scanUp (fun x => !lt d[a]! x) d j i = i2) (h2 : scanDown (fun x => lt d[a]! x) d i2 j = j2) (h : j2 < i2) : partEqLoop lt a i j d = (i2, d) := by
  rw [partEqLoop]; simp only [h1, h2]; rw [if_pos h]
theorem peq_step {a i2 j2 : Nat} (h1 : scanUp (fun x => !lt d[a]! x) d j i = i2) (h2 : scanDown (fun x => lt d[a]! x) d i2 j = j2) (h : ¬ j2 < i2) (hg : (j2 - 1) + 1 - (i2 + 1) < j + 1 - i) : partEqLoop lt a i j d = partEqLoop lt a (i2 + 1) (j2 - 1) (swp d i2 j2) := by
  rw [partEqLoop]; simp only [h1, h2]; rw [if_neg h, dif_pos hg]
end
set_option maxHeartbeats 8000000 in
theorem C101 {u : Value} {d : Array Piece} {a b pv : Nat} (hab : a < b) (hp : a ≤ pv ∧ pv < b) (hb : b ≤ d.size) (hl : d.size ≤ 1000) : Fn Tryz.prog 101 [srt u d] [.agg (dataW u), .v (.int .i64 a), .v (.int .i64 b), .v (.int .i64 pv)] [.v (.int .i64 (Go.Sort.partitionEqual befB d a b pv).1)] [srt u (Go.Sort.partitionEqual befB d a b pv).2] := by
  refine Spec.body Tryz.func101 rfl Tryz.ntmps101 (by simp) rfl ?_; intro S0 own0 v0 w0
  (refine AW.seq_k ?_; intro K hK)
  refine AW.region ?_
  refine awJ (op_box rfl rfl rfl sz114 rfl) ?_; (simp only [nA, Nat.reduceBEq, Nat.reduceEqDiff, ↓reduceIte])
  refine awP (op_assign rfl rfl) ?_; (try simp only [nA, Nat.reduceBEq, Nat.reduceEqDiff, ↓reduceIte, Nat.reduceAdd, Nat.reduceSub])
  refine AWL.nil ?_
  (refine hK _ ?_; clear hK K; (try simp only [nA, Nat.reduceBEq, Nat.reduceEqDiff, ↓reduceIte, Nat.reduceAdd, Nat.reduceSub]))
  (refine AW.seq_k ?_; intro K hK)
  refine AW.region ?_
  (refine awP (op_fa_ptr rfl rfl rfl fl114_1 (by exact sz2) (by decide) rfl) ?_); (try simp only [nA, Nat.reduceBEq, Nat.reduceEqDiff, ↓reduceIte, Nat.reduceAdd, Nat.reduceSub])
  (refine awR (op_load_ptr1 rfl rfl rfl rfl ag108 rfl rfl) ?_); (try simp only [nA, Nat.reduceBEq, Nat.reduceEqDiff, ↓reduceIte, Nat.reduceAdd, Nat.reduceSub])
  refine awP (op_move rfl rfl) ?_; (simp only [nA, ↓reduceIte])
  refine awP (op_move rfl rfl) ?_; (simp only [nA, ↓reduceIte])
  refine awJ (op_sw (r := 0) (d := d) rfl rfl rfl rfl rfl (by omega) (by omega) rfl) ?_; (try simp only [nA, Nat.reduceBEq, Nat.reduceEqDiff, ↓reduceIte, Nat.reduceAdd, Nat.reduceSub])
  refine AWL.nil ?_
  (refine hK _ ?_; clear hK K; (skip))
  (refine AW.seq_k ?_; intro K hK)
  refine AW.region ?_
  refine awP (op_move rfl rfl) ?_; (simp only [nA, ↓reduceIte])
  (refine awP (op_addi rfl rfl rfl (by omega)) ?_); (try simp only [nA, Nat.reduceBEq, Nat.reduceEqDiff, ↓reduceIte, Nat.reduceAdd, Nat.reduceSub])
  refine awP (op_move rfl rfl) ?_; (simp only [nA, ↓reduceIte])
  (refine awP (op_subi rfl rfl rfl (by omega)) ?_); (try simp only [nA, Nat.reduceBEq, Nat.reduceEqDiff, ↓reduceIte, Nat.reduceAdd, Nat.reduceSub])
  refine awP (op_assign rfl rfl) ?_; (simp only [nA, ↓reduceIte])
  refine awP (op_assign rfl rfl) ?_; (simp only [nA, ↓reduceIte])
  refine AWL.nil ?_
  (refine hK _ ?_; clear hK K; (skip))
  (refine AW.seq_k ?_; intro K hK)
  refine AW.block ?_
  refine AW.loopI (fun (q : Nat × Nat × Array Piece) => [(1, .v (.int .i64 a)), (4, .ptr 1 1 0 0), (9, .v (.int .i64 (q.1 : Nat))), (10, .v (.int .i64 (q.2.1 : Nat)))]) (fun q => ⟨[(0, srt u q.2.2), (1, .own 114 [dataW u])], 2⟩) (fun q => a < q.1 ∧ q.1 ≤ b ∧ a ≤ q.2.1 ∧ q.2.1 ≤ b - 1 ∧ q.2.2.size = d.size ∧ Go.Sort.partEqLoop befB a q.1 q.2.1 q.2.2 = Go.Sort.partitionEqual befB d a b pv) (fun q => q.2.1 + 1 - q.1) (a + 1, b - 1, Go.Sort.swp d a pv) ⟨by dsimp only; omega, by dsimp only; omega, by dsimp only; omega, by dsimp only; omega, Go.Sort.size_swp _ _ _, rfl⟩ ⟨rfl, rfl, vint (by dsimp only; omega), vint (by dsimp only; omega), trivial⟩ (by simp only [Int.toNat_natCast]; rfl) ?_; rintro ⟨i2, j2, dm⟩ ρ ⟨hi2a, hi2b, hj2a, hj2b, hsm, hP⟩; dsimp only at hi2a hi2b hj2a hj2b hsm hP ⊢; simp only [updL]
  refine AW.block ?_
  (refine AW.seq_k ?_; intro K hK)
  refine AW.block ?_
  refine AW.loopI (fun (i3 : Nat) => [(1, .v (.int .i64 a)), (4, .ptr 1 1 0 0), (9, .v (.int .i64 (i3 : Nat))), (10, .v (.int .i64 (j2 : Nat)))]) (fun _ => ⟨[(0, srt u dm), (1, .own 114 [dataW u])], 2⟩) (fun i3 => i2 ≤ i3 ∧ i3 ≤ b ∧ Go.Sort.scanUp (fun x => !befB dm[a]! x) dm j2 i3 = Go.Sort.scanUp (fun x => !befB dm[a]! x) dm j2 i2) (fun i3 => b - i3) i2 ⟨by omega, by omega, rfl⟩ ⟨rfl, rfl, rfl, rfl, trivial⟩ rfl ?_; rintro i3 ρ ⟨hi3a, hi3b, hI3⟩; simp only [updL]
  (refine AW.seq_k ?_; intro K hK)
  (refine AW.seq_k ?_; intro K hK)
  refine AW.region (AWL.quiet ?_)
  refine aqP (op_move rfl rfl) ?_; (simp only [nA, ↓reduceIte])
  refine aqP (op_move rfl rfl) ?_; (simp only [nA, ↓reduceIte])
  refine aqP (op_leq rfl rfl rfl) ?_; (try simp only [nA, Nat.reduceBEq, Nat.reduceEqDiff, ↓reduceIte, Nat.reduceAdd, Nat.reduceSub])
  refine aqP (op_move rfl rfl) ?_; (simp only [nA])
  refine' aqAnd' [_, _, _, _, _, _] [24,25,26,27,28,29] rfl rfl rfl rfl rfl rfl rfl rfl rfl rfl rfl rfl (fun hb => ?_) ?_; rotate_left
  ·
   (try simp only [hcS] at hb)
   (refine aqP (op_fa_ptr rfl rfl rfl fl114_0 (by exact sz2) (by decide) rfl) ?_); (try simp only [nA, Nat.reduceBEq, Nat.reduceEqDiff, ↓reduceIte, Nat.reduceAdd, Nat.reduceSub])
   (refine aqR (op_load_ptr1 rfl rfl rfl rfl ag87 rfl rfl) ?_); (try simp only [nA, Nat.reduceBEq, Nat.reduceEqDiff, ↓reduceIte, Nat.reduceAdd, Nat.reduceSub])
   refine aqP (op_move rfl rfl) ?_; (simp only [nA, ↓reduceIte])
   refine aqP (op_move rfl rfl) ?_; (simp only [nA, ↓reduceIte])
   refine aqQ (op_lt (r := 0) (d := dm) rfl rfl rfl rfl rfl (by omega) (by omega) (by omega)) ?_; (try simp only [nA, Nat.reduceBEq, Nat.reduceEqDiff, ↓reduceIte, Nat.reduceAdd, Nat.reduceSub])
   refine aqP (op_not rfl rfl rfl) ?_; (try simp only [nA, Nat.reduceBEq, Nat.reduceEqDiff, ↓reduceIte, Nat.reduceAdd, Nat.reduceSub])
   (refine aqSeg rfl rfl rfl ?_; repeat (first | exact fun _ _ => rfl | refine upd_out rfl ?_))
  refine AQ.nil ?_
  (refine hK _ ?_; clear hK K; (skip))
  refine AW.cond rfl rfl rfl (fun hc => ?_) (fun hc => ?_)
  ·
   (try simp only [hcS] at hc); have hc1 := hc; simp only [Int.toNat_natCast, Bool.and_eq_true, Bool.not_eq_true', decide_eq_true_eq] at hc
   refine AW.skip ?_
   (refine hK _ ?_; clear hK K; (skip))
   refine AW.block ?_
   refine AW.region ?_
   refine awP (op_move rfl rfl) ?_; (simp only [nA, Nat.reduceEqDiff, ↓reduceIte])
   (refine awP (op_addi rfl rfl rfl (by omega)) ?_); (try simp only [nA, Nat.reduceBEq, Nat.reduceEqDiff, ↓reduceIte, Nat.reduceAdd, Nat.reduceSub])
   refine awP (op_assign rfl rfl) ?_; (simp only [nA])
   refine AWL.nil ?_
   (try simp only [thenE, inBlk, Nat.reduceEqDiff, ↓reduceIte])
   refine ⟨i3 + 1, ⟨by omega, by omega, by rw [← hI3]; exact (up_pos (p := fun x => !befB dm[a]! x) (d := dm) (i := i3) (j := j2) (by omega) (by simp [hc.2])).symm⟩, by omega, ⟨rfl, rfl, rfl, rfl, trivial⟩, (by trivial), (by trivial)⟩
  (try simp only [hcS] at hc); have hc1 := hc; simp only [Int.toNat_natCast, Bool.and_eq_true, Bool.not_eq_true', decide_eq_true_eq] at hc; have hU2 : Go.Sort.scanUp (fun x => !befB dm[a]! x) dm j2 i2 = i3 := (by rw [← hI3]; exact up_neg (by rintro ⟨h1, h2⟩; rcases hc with h | h; omega; simp [h] at h2))
  refine AW.exit ?_; (try simp only [thenE, inBlk, Nat.reduceEqDiff, ↓reduceIte])
  clear hK K
  (refine hK _ ?_; clear hK K; (skip))
  (refine AW.seq_k ?_; intro K hK)
  refine AW.block ?_
  refine AW.loopI (fun (j3 : Nat) => [(1, .v (.int .i64 a)), (4, .ptr 1 1 0 0), (9, .v (.int .i64 (i3 : Nat))), (10, .v (.int .i64 (j3 : Nat)))]) (fun _ => ⟨[(0, srt u dm), (1, .own 114 [dataW u])], 2⟩) (fun j3 => a ≤ j3 ∧ j3 ≤ j2 ∧ Go.Sort.scanDown (fun x => befB dm[a]! x) dm i3 j3 = Go.Sort.scanDown (fun x => befB dm[a]! x) dm i3 j2) (fun j3 => j3) j2 ⟨by omega, by omega, rfl⟩ ⟨rfl, rfl, rfl, rfl, trivial⟩ rfl ?_; rintro j3 ρ ⟨hj3a, hj3b, hJ3⟩; simp only [updL]
  (refine AW.seq_k ?_; intro K hK)
  (refine AW.seq_k ?_; intro K hK)
  refine AW.region (AWL.quiet ?_)
  refine aqP (op_move rfl rfl) ?_; (simp only [nA, ↓reduceIte])
  refine aqP (op_move rfl rfl) ?_; (simp only [nA, ↓reduceIte])
  refine aqP (op_leq rfl rfl rfl) ?_; (try simp only [nA, Nat.reduceBEq, Nat.reduceEqDiff, ↓reduceIte, Nat.reduceAdd, Nat.reduceSub])
  refine aqP (op_move rfl rfl) ?_; (simp only [nA])
  refine' aqAnd' [_, _, _, _, _] [37,38,39,40,41] rfl rfl rfl rfl rfl rfl rfl rfl rfl rfl rfl rfl (fun hb => ?_) ?_; rotate_left
  ·
   (try simp only [hcS] at hb)
   (refine aqP (op_fa_ptr rfl rfl rfl fl114_0 (by exact sz2) (by decide) rfl) ?_); (try simp only [nA, Nat.reduceBEq, Nat.reduceEqDiff, ↓reduceIte, Nat.reduceAdd, Nat.reduceSub])
   (refine aqR (op_load_ptr1 rfl rfl rfl rfl ag87 rfl rfl) ?_); (try simp only [nA, Nat.reduceBEq, Nat.reduceEqDiff, ↓reduceIte, Nat.reduceAdd, Nat.reduceSub])
   refine aqP (op_move rfl rfl) ?_; (simp only [nA, ↓reduceIte])
   refine aqP (op_move rfl rfl) ?_; (simp only [nA, ↓reduceIte])
   refine aqQ (op_lt (r := 0) (d := dm) rfl rfl rfl rfl rfl (by omega) (by omega) (by omega)) ?_; (try simp only [nA, Nat.reduceBEq, Nat.reduceEqDiff, ↓reduceIte, Nat.reduceAdd, Nat.reduceSub])
   (refine aqSeg rfl rfl rfl ?_; repeat (first | exact fun _ _ => rfl | refine upd_out rfl ?_))
  refine AQ.nil ?_
  (refine hK _ ?_; clear hK K; (skip))
  refine AW.cond rfl rfl rfl (fun hc => ?_) (fun hc => ?_)
  ·
   (try simp only [hcS] at hc); have hc2 := hc; simp only [Int.toNat_natCast, Bool.and_eq_true, Bool.not_eq_true', decide_eq_true_eq] at hc
   refine AW.skip ?_
   (refine hK _ ?_; clear hK K; (skip))
   refine AW.block ?_
   refine AW.region ?_
   refine awP (op_move rfl rfl) ?_; (simp only [nA, Nat.reduceEqDiff, ↓reduceIte])
   (refine awP (op_subi rfl rfl rfl (by omega)) ?_); (try simp only [nA, Nat.reduceBEq, Nat.reduceEqDiff, ↓reduceIte, Nat.reduceAdd, Nat.reduceSub])
   refine awP (op_assign rfl rfl) ?_; (simp only [nA])
   refine AWL.nil ?_
   (try simp only [thenE, inBlk, Nat.reduceEqDiff, ↓reduceIte])
   refine ⟨j3 - 1, ⟨by omega, by omega, by rw [← hJ3]; exact (down_pos (p := fun x => befB dm[a]! x) (d := dm) (i := i3) (j := j3) (by omega) (by omega) hc.2).symm⟩, by omega, ⟨rfl, rfl, rfl, vint (by omega), trivial⟩, (by trivial), (by trivial)⟩
  (try simp only [hcS] at hc); have hc2 := hc; simp only [Int.toNat_natCast, Bool.and_eq_true, Bool.not_eq_true', decide_eq_true_eq] at hc; have hD2 : Go.Sort.scanDown (fun x => befB dm[a]! x) dm i3 j2 = j3 := (by rw [← hJ3]; exact down_neg (by rintro ⟨h1, h2⟩; rcases hc with h | h; omega; simp [h] at h2))
  refine AW.exit ?_; (try simp only [thenE, inBlk, Nat.reduceEqDiff, ↓reduceIte])
  clear hK K
  (refine hK _ ?_; clear hK K; (skip))
  (refine AW.seq_k ?_; intro K hK)
  (refine AW.seq_k ?_; intro K hK)
  refine AW.region ?_
  refine awP (op_move rfl rfl) ?_; (simp only [nA, Nat.reduceEqDiff, ↓reduceIte])
  refine awP (op_move rfl rfl) ?_; (simp only [nA, Nat.reduceEqDiff, ↓reduceIte])
  refine awP (op_gtr rfl rfl rfl) ?_; (try simp only [nA, Nat.reduceBEq, Nat.reduceEqDiff, ↓reduceIte, Nat.reduceAdd, Nat.reduceSub])
  refine AWL.nil ?_
  (refine hK _ ?_; clear hK K; (skip))
  refine AW.cond rfl rfl rfl (fun hc => ?_) (fun hc => ?_)
  ·
   (try simp only [hcS] at hc); have hc3 := hc
   refine AW.exit ?_; (try simp only [thenE, inBlk, Nat.reduceEqDiff, ↓reduceIte])
   clear hK K
   (refine hK _ ?_; clear hK K; (skip))
   (refine AW.seq_k ?_; intro K hK)
   refine AW.region ?_
   refine awP (op_move rfl rfl) ?_; (simp only [nA, Nat.reduceEqDiff, ↓reduceIte])
   refine awP (op_assign rfl rfl) ?_; (simp only [nA])
   refine AWL.nil ?_
   (refine hK _ ?_; clear hK K; (skip))
   skip
   refine AW.ret ?_; (try simp only [thenE, inBlk, Nat.reduceEqDiff, ↓reduceIte]); rw [← hP, peq_stop hU2 hD2 (by omega)]; exact RQ.of (.inl rfl) rfl (.tmp (bl rfl) rfl rfl .nil) (by simp) rfl (one_out rfl)
  (try simp only [hcS] at hc); have hc3 := hc
  refine AW.skip ?_
  (refine hK _ ?_; clear hK K; (skip))
  (refine AW.seq_k ?_; intro K hK)
  refine AW.region ?_
  (refine awP (op_fa_ptr rfl rfl rfl fl114_1 (by exact sz2) (by decide) rfl) ?_); (try simp only [nA, Nat.reduceBEq, Nat.reduceEqDiff, ↓reduceIte, Nat.reduceAdd, Nat.reduceSub])
  (refine awR (op_load_ptr1 rfl rfl rfl rfl ag108 rfl rfl) ?_); (try simp only [nA, Nat.reduceBEq, Nat.reduceEqDiff, ↓reduceIte, Nat.reduceAdd, Nat.reduceSub])
  refine awP (op_move rfl rfl) ?_; (simp only [nA, Nat.reduceEqDiff, ↓reduceIte])
  refine awP (op_move rfl rfl) ?_; (simp only [nA, Nat.reduceEqDiff, ↓reduceIte])
  refine awJ (op_sw (r := 0) (d := dm) rfl rfl rfl rfl rfl (by omega) (by omega) rfl) ?_; (try simp only [nA, Nat.reduceBEq, Nat.reduceEqDiff, ↓reduceIte, Nat.reduceAdd, Nat.reduceSub])
  refine AWL.nil ?_
  (refine hK _ ?_; clear hK K; (skip))
  (refine AW.seq_k ?_; intro K hK)
  refine AW.region ?_
  refine awP (op_move rfl rfl) ?_; (simp only [nA, Nat.reduceEqDiff, ↓reduceIte])
  (refine awP (op_addi rfl rfl rfl (by omega)) ?_); (try simp only [nA, Nat.reduceBEq, Nat.reduceEqDiff, ↓reduceIte, Nat.reduceAdd, Nat.reduceSub])
  refine awP (op_assign rfl rfl) ?_; (simp only [nA])
  refine AWL.nil ?_
  (refine hK _ ?_; clear hK K; (skip))
  refine AW.region ?_
  refine awP (op_move rfl rfl) ?_; (simp only [nA, Nat.reduceEqDiff, ↓reduceIte])
  (refine awP (op_subi rfl rfl rfl (by omega)) ?_); (try simp only [nA, Nat.reduceBEq, Nat.reduceEqDiff, ↓reduceIte, Nat.reduceAdd, Nat.reduceSub])
  refine awP (op_assign rfl rfl) ?_; (simp only [nA])
  refine AWL.nil ?_
  (try simp only [thenE, inBlk, Nat.reduceEqDiff, ↓reduceIte])
  refine ⟨(i3 + 1, j3 - 1, Go.Sort.swp dm i3 j3), ⟨by dsimp only; omega, by dsimp only; omega, by dsimp only; omega, by dsimp only; omega, by rw [Go.Sort.size_swp, hsm], by rw [← hP]; exact (peq_step hU2 hD2 (by omega) (by omega)).symm⟩, by dsimp only; omega, ⟨rfl, rfl, vint (by dsimp only; omega), vint (by dsimp only; omega), trivial⟩, (by simp only [Int.toNat_natCast]), (by trivial)⟩
end Go.Proofs.YtmdohphcolffmaaGreat
namespace Go.Proofs.YtmdohphcolffmaaGreat
open Go.RowKit
set_option linter.unusedSimpArgs false
set_option linter.unusedVariables false
set_option maxRecDepth 100000
section
open Go.Sort
variable {p : Piece → Bool} {lt : Piece → Piece → Bool}
theorem up_bd {d : Array Piece} {j : Nat} : ∀ (n i : Nat), j + 1 - i = n → i ≤ scanUp p d j i ∧ (scanUp p d j i ≤ j + 1 ∨ scanUp p d j i = i) := by
  intro n
  induction n with
  | zero =>
    intro i h
    rw [up_neg (by omega)]
    exact ⟨Nat.le_refl _, .inr rfl⟩
  | succ n ih =>
    intro i h
    by_cases hc : i ≤ j ∧ p d[i]! = true
    · rw [up_pos hc.1 hc.2]
      have := ih (i + 1) (by omega)
      omega
    rw [up_neg hc]
    exact ⟨Nat.le_refl _, .inr rfl⟩
theorem down_bd {d : Array Piece} {i : Nat} (hi : 0 < i) : ∀ j, scanDown p d i j ≤ j ∧ (i ≤ scanDown p d i j + 1 ∨ scanDown p d i j = j) := by
  intro j
  induction j with
  | zero => exact ⟨Nat.le_refl _, .inr rfl⟩
  | succ j ih =>
    by_cases hc : i ≤ j + 1 ∧ p d[j + 1]! = true
    · rw [down_pos (by omega) hc.1 hc.2, Nat.add_sub_cancel]
      omega
    rw [down_neg hc]
    exact ⟨Nat.le_refl _, .inr rfl⟩
theorem peq_facts {a b : Nat} : ∀ (n i j : Nat) (d : Array Piece), j + 1 - i = n → a < i → i ≤ b → j + 1 ≤ b → a < (partEqLoop lt a i j d).1 ∧ (partEqLoop lt a i j d).1 ≤ b ∧ (partEqLoop lt a i j d).2.size = d.size := by
  intro n
  induction n using Nat.strongRecOn with
  | _ n ih =>
    intro i j d hn hi1 hi2 hj
    have hu := up_bd (p := fun x => !lt d[a]! x) (d := d) (j := j) _ i rfl
    generalize h1 : scanUp (fun x => !lt d[a]! x) d j i = i2 at hu
    have hd := down_bd (p := fun x => lt d[a]! x) (d := d) (i := i2) (by omega) j
    generalize h2 : scanDown (fun x => lt d[a]! x) d i2 j = j2 at hd
    by_cases h : j2 < i2
    · rw [peq_stop h1 h2 h]
      exact ⟨by dsimp only; omega, by dsimp only; omega, rfl⟩
    rw [peq_step h1 h2 h (by omega)]
    have := ih _ (by omega) (i2 + 1) (j2 - 1) (swp d i2 j2) rfl (by omega) (by omega) (by omega)
    rw [size_swp] at this
    exact this
theorem part_facts {a b : Nat} : ∀ (n i j : Nat) (d : Array Piece), j + 1 - i = n → a < i → a ≤ j → j < b → a ≤ (partLoop lt a i j d).1 ∧ (partLoop lt a i j d).1 < b ∧ (partLoop lt a i j d).2.size = d.size := by
  intro n
  induction n using Nat.strongRecOn with
  | _ n ih =>
    intro i j d hn hi1 hj1 hj
    have hu := up_bd (p := fun x => lt x d[a]!) (d := d) (j := j) _ i rfl
    generalize h1 : scanUp (fun x => lt x d[a]!) d j i = i2 at hu
    have hd := down_bd (p := fun x => !lt x d[a]!) (d := d) (i := i2) (by omega) j
    generalize h2 : scanDown (fun x => !lt x d[a]!) d i2 j = j2 at hd
    by_cases h : j2 < i2
    · rw [part_stop h1 h2 h]
      exact ⟨by dsimp only; omega, by dsimp only; omega, rfl⟩
    rw [part_step h1 h2 h (by omega)]
    have := ih _ (by omega) (i2 + 1) (j2 - 1) (swp d i2 j2) rfl (by omega) (by omega) (by omega)
    rw [size_swp] at this
    exact this
theorem eq_facts {d : Array Piece} {a b pv : Nat} (hab : a < b) : a < (partitionEqual lt d a b pv).1 ∧ (partitionEqual lt d a b pv).1 ≤ b ∧ (partitionEqual lt d a b pv).2.size = d.size := by
  have := peq_facts (lt := lt) (a := a) (b := b) _ (a + 1) (b - 1) (swp d a pv) rfl (by omega) (by omega) (by omega)
  rw [size_swp] at this
  exact this
theorem p_facts {d : Array Piece} {a b pv : Nat} (hab : a < b) : a ≤ (partition lt d a b pv).1 ∧ (partition lt d a b pv).1 < b ∧ (partition lt d a b pv).2.2.size = d.size := by
  unfold partition
  dsimp only
  have hu := up_bd (p := fun x => lt x (swp d a pv)[a]!) (d := swp d a pv) (j := b - 1) _ (a + 1) rfl
  generalize h1 : scanUp (fun x => lt x (swp d a pv)[a]!) (swp d a pv) (b - 1) (a + 1) = i2 at hu
  have hd := down_bd (p := fun x => !lt x (swp d a pv)[a]!) (d := swp d a pv) (i := i2) (by omega) (b - 1)
  generalize h2 : scanDown (fun x => !lt x (swp d a pv)[a]!) (swp d a pv) i2 (b - 1) = j2 at hd
  split
  · exact ⟨by dsimp only; omega, by dsimp only; omega, by simp only [size_swp]⟩
  have := part_facts (lt := lt) (a := a) (b := b) _ (i2 + 1) (j2 - 1) (swp (swp d a pv) i2 j2) rfl (by omega) (by omega) (by omega)
  simp only [size_swp] at this ⊢
  exact this
end
end Go.Proofs.YtmdohphcolffmaaGreat
namespace Go.Proofs.YtmdohphcolffmaaGreat
open Go.RowKit
set_option linter.unusedSimpArgs false
set_option linter.unusedVariables false
set_option maxRecDepth 100000
section
open Go.Sort
variable {lt : Piece → Piece → Bool} {d d1 d2 : Array Piece} {a b lim lim1 pv : Nat} {wb wp : Bool} {hint : Hint}
theorem pdq_ins (h : b - a ≤ 12) : pdq lt d a b lim wb wp = insertionSort lt d a b := by rw [pdq, if_pos h]
theorem pdq_heap (h : ¬ b - a ≤ 12) (hl : lim = 0) : pdq lt d a b lim wb wp = heapSort lt d a b := by rw [pdq, if_neg h, if_pos hl]
/-- What a round does ahead of the partition. -/
structure Round (lt : Piece → Piece → Bool) (d : Array Piece) (a b lim : Nat) (wb : Bool) (d1 : Array Piece) (lim1 : Nat) (d2 : Array Piece) (pv : Nat) (hint : Hint) : Prop where
  h12 : ¬ b - a ≤ 12
  hl : ¬ lim = 0
  e1 : (if !wb then breakPatterns d a b else d) = d1
  e2 : (if !wb then lim - 1 else lim) = lim1
  e3 : (if (choosePivot lt d1 a b).2 = .decreasing then reverseRange d1 a b else d1) = d2
  e4 : (if (choosePivot lt d1 a b).2 = .decreasing then (b - 1) - ((choosePivot lt d1 a b).1 - a) else (choosePivot lt d1 a b).1) = pv
  e5 : (if (choosePivot lt d1 a b).2 = .decreasing then Hint.increasing else (choosePivot lt d1 a b).2) = hint
theorem Round.done (h : Round lt d a b lim wb d1 lim1 d2 pv hint) (h1 : wb = true ∧ wp = true ∧ hint = .increasing) (h2 : (partialInsertionSort lt d2 a b).2 = true) : pdq lt d a b lim wb wp = (partialInsertionSort lt d2 a b).1 := by
  rw [pdq, if_neg h.h12, if_neg h.hl]
  simp only [h.e1, h.e2, h.e3, h.e4, h.e5]
  have hp : (if (wb && wp && decide (hint = Hint.increasing)) = true then partialInsertionSort lt d2 a b else (d2, false)) = ((partialInsertionSort lt d2 a b).1, true) := by
    rw [if_pos (by simp [h1]), ← h2]
  rw [hp]
  rfl
/-- What the partial sort leaves where it does not end the round. -/
def part3 (lt : Piece → Piece → Bool) (d2 : Array Piece) (a b : Nat) (wb wp : Bool) (hint : Hint) : Array Piece := if wb = true ∧ wp = true ∧ hint = .increasing then (partialInsertionSort lt d2 a b).1 else d2
theorem part3_size : (part3 lt d2 a b wb wp hint).size = d2.size := by
  unfold part3
  split
  · exact pI_size d2 a b
  rfl
theorem Round.rest {d3 : Array Piece} (h : Round lt d a b lim wb d1 lim1 d2 pv hint) (h1 : ¬ ((wb = true ∧ wp = true ∧ hint = .increasing) ∧ (partialInsertionSort lt d2 a b).2 = true)) (h3 : part3 lt d2 a b wb wp hint = d3) : pdq lt d a b lim wb wp =
    if a > 0 && !lt d3[a - 1]! d3[pv]! then
      (if _h : a < (partitionEqual lt d3 a b pv).1 ∧ (partitionEqual lt d3 a b pv).1 ≤ b then pdq lt (partitionEqual lt d3 a b pv).2 (partitionEqual lt d3 a b pv).1 b lim1 wb wp else (partitionEqual lt d3 a b pv).2)
    else
      (if _h : a ≤ (partition lt d3 a b pv).1 ∧ (partition lt d3 a b pv).1 < b then
        if (partition lt d3 a b pv).1 - a < b - (partition lt d3 a b pv).1 then
          pdq lt (pdq lt (partition lt d3 a b pv).2.2 a (partition lt d3 a b pv).1 lim1 true true) ((partition lt d3 a b pv).1 + 1) b lim1 (decide ((partition lt d3 a b pv).1 - a ≥ (b - a) / 8)) (partition lt d3 a b pv).2.1
        else
          pdq lt (pdq lt (partition lt d3 a b pv).2.2 ((partition lt d3 a b pv).1 + 1) b lim1 true true) a (partition lt d3 a b pv).1 lim1 (decide (b - (partition lt d3 a b pv).1 ≥ (b - a) / 8)) (partition lt d3 a b pv).2.1
      else (partition lt d3 a b pv).2.2) := by
  subst h3
  rw [pdq, if_neg h.h12, if_neg h.hl]
  simp only [h.e1, h.e2, h.e3, h.e4, h.e5]
  have hp : (if (wb && wp && decide (hint = Hint.increasing)) = true then partialInsertionSort lt d2 a b else (d2, false)).1 = part3 lt d2 a b wb wp hint ∧ (if (wb && wp && decide (hint = Hint.increasing)) = true then partialInsertionSort lt d2 a b else (d2, false)).2 = false := by
    unfold part3
    by_cases hc : wb = true ∧ wp = true ∧ hint = .increasing
    · rw [if_pos (by simp [hc]), if_pos hc]
      refine ⟨rfl, ?_⟩
      cases hh : (partialInsertionSort lt d2 a b).2 with
      | false => rfl
      | true => exact absurd ⟨hc, hh⟩ h1
    rw [if_neg (by simpa using hc), if_neg hc]
    exact ⟨rfl, rfl⟩
  rw [hp.1, hp.2]
  rfl
end
end Go.Proofs.YtmdohphcolffmaaGreat
namespace Go.Proofs.YtmdohphcolffmaaGreat
open Go.RowKit
set_option linter.unusedSimpArgs false
set_option linter.unusedVariables false
set_option maxRecDepth 100000
section
open Go.Sort
variable {lt : Piece → Piece → Bool}
theorem size_insInner (a : Nat) : ∀ (j : Nat) (d : Array Piece), (insInner lt a j d).size = d.size
  | 0, d => by unfold insInner; rfl
  | j + 1, d => by
    unfold insInner
    split
    · rw [size_insInner a j, size_swp]
    rfl
theorem size_insOuter (a b : Nat) : ∀ (n i : Nat) (d : Array Piece), b - i = n → (insOuter lt a b i d).size = d.size
  | 0, i, d, h => by unfold insOuter; rw [if_neg (by omega)]
  | n + 1, i, d, h => by unfold insOuter; rw [if_pos (by omega), size_insOuter a b n (i + 1) _ (by omega), size_insInner]
theorem size_ins (d : Array Piece) (a b : Nat) : (insertionSort lt d a b).size = d.size := size_insOuter a b _ _ d rfl
theorem size_hb (hi f : Nat) : ∀ (k : Nat) (d : Array Piece), (heapBuild lt hi f k d).size = d.size
  | 0, d => rfl
  | k + 1, d => by rw [heapBuild, size_hb hi f k, size_sift _ _ _ rfl]
theorem size_hp (f : Nat) : ∀ (k : Nat) (d : Array Piece), (heapPop lt f k d).size = d.size
  | 0, d => rfl
  | k + 1, d => by rw [heapPop, size_hp f k, size_sift _ _ _ rfl, size_swp]
theorem size_heap (d : Array Piece) (a b : Nat) : (heapSort lt d a b).size = d.size := by unfold heapSort; rw [size_hp, size_hb]
theorem Round.size {d d1 d2 : Array Piece} {a b lim lim1 pv : Nat} {wb : Bool} {hint : Hint} (h : Round lt d a b lim wb d1 lim1 d2 pv hint) (hb : b ≤ d.size) : d2.size = d.size := by
  have h12 := h.h12
  have s1 : d1.size = d.size := by
    rw [← h.e1]
    split
    · exact (breakPatterns_holds d a b (by omega) hb).1
    rfl
  rw [← h.e3, ← s1]
  split
  · exact (reverseRange_holds d1 a b (by omega) (by omega)).1
  rfl
theorem pdq_size : ∀ (n : Nat) (d : Array Piece) (a b lim : Nat) (wb wp : Bool), b - a = n → b ≤ d.size → (pdq lt d a b lim wb wp).size = d.size := by
  intro n
  induction n using Nat.strongRecOn with
  | _ n ih =>
    intro d a b lim wb wp hn hb
    by_cases h12 : b - a ≤ 12
    · rw [pdq_ins h12, size_ins]
    by_cases hl : lim = 0
    · rw [pdq_heap h12 hl, size_heap]
    have R : Round lt d a b lim wb _ _ _ _ _ := ⟨h12, hl, rfl, rfl, rfl, rfl, rfl⟩
    have hs := R.size hb
    revert R hs
    generalize (if !wb then breakPatterns d a b else d) = d1
    generalize (if !wb then lim - 1 else lim) = lim1
    generalize (if (choosePivot lt d1 a b).2 = .decreasing then reverseRange d1 a b else d1) = d2
    generalize (if (choosePivot lt d1 a b).2 = .decreasing then (b - 1) - ((choosePivot lt d1 a b).1 - a) else (choosePivot lt d1 a b).1) = pv
    generalize (if (choosePivot lt d1 a b).2 = .decreasing then Hint.increasing else (choosePivot lt d1 a b).2) = hint
    intro R hs
    by_cases hdone : (wb = true ∧ wp = true ∧ hint = .increasing) ∧ (partialInsertionSort lt d2 a b).2 = true
    · rw [R.done hdone.1 hdone.2, pI_size, hs]
    rw [R.rest hdone rfl]
    have hs3 := part3_size (lt := lt) (d2 := d2) (a := a) (b := b) (wb := wb) (wp := wp) (hint := hint)
    generalize part3 lt d2 a b wb wp hint = d3 at hs3
    have he := eq_facts (lt := lt) (d := d3) (a := a) (b := b) (pv := pv) (by omega)
    have hp := p_facts (lt := lt) (d := d3) (a := a) (b := b) (pv := pv) (by omega)
    split
    · rw [dif_pos ⟨he.1, he.2.1⟩, ih _ (by omega) _ _ _ _ _ _ rfl (by omega)]
      omega
    rw [dif_pos ⟨hp.1, hp.2.1⟩]
    have q1 := ih _ (by omega) (partition lt d3 a b pv).2.2 a (partition lt d3 a b pv).1 lim1 true true rfl (by omega)
    have q2 := ih _ (by omega) (partition lt d3 a b pv).2.2 ((partition lt d3 a b pv).1 + 1) b lim1 true true rfl (by omega)
    split
    · rw [ih _ (by omega) _ _ _ _ _ _ rfl (by omega)]; omega
    rw [ih _ (by omega) _ _ _ _ _ _ rfl (by omega)]; omega
end
end Go.Proofs.YtmdohphcolffmaaGreat
