import Derived.Test.YtjgbbffcjbmjmaaFa
import Derived.Test.YtjgbbffcjbmjmaaAbP
namespace Go.Proofs.Ytjgbbffcjbmjmaa
open Go.RowKit
set_option linter.unusedSimpArgs false
set_option linter.unusedVariables false

theorem sz81 : sizeIs Try.prog 81 1 := by unfold sizeIs; kernel_rfl
theorem ag81 : aggB Try.prog 81 = some false := by kernel_rfl
/-! ### The search for a better pairing: the law of one call -/
abbrev bv (b : Bool) : List AV := [.v (.bool b)]
structure ISt where
  sr : List Bool
  sc : List Bool
  to : List Int
structure Inv (n : Nat) (s : ISt) : Prop where
  sr : s.sr.length = n
  sc : s.sc.length = n
  to : s.to.length = n
  rg : ∀ k, k < n → -1 ≤ s.to.getD k default ∧ s.to.getD k default < n
def cnt (s : ISt) : Nat := s.sc.count false
def impK (W : List (List Int)) (rows cols : List Int) (rec : Nat → ISt → Bool × ISt) (i : Nat) : List Nat → ISt → Bool × ISt
  | [], s => (false, s)
  | k :: ks, s =>
    if s.sc.getD k default = true ∨ rows.getD i default + cols.getD k default ≠ (W.getD i default).getD k default then impK W rows cols rec i ks s
    else if s.to.getD k default < 0 then (true, ⟨s.sr, s.sc.set k true, s.to.set k i⟩)
    else match rec (s.to.getD k default).toNat ⟨s.sr, s.sc.set k true, s.to⟩ with
      | (true, s2) => (true, ⟨s2.sr, s2.sc, s2.to.set k i⟩)
      | (false, s2) => impK W rows cols rec i ks s2
def imp (W : List (List Int)) (rows cols : List Int) (n : Nat) : Nat → Nat → ISt → Bool × ISt
  | 0, i, s => impK W rows cols (fun _ s => (false, s)) i (List.range' 0 n) ⟨s.sr.set i true, s.sc, s.to⟩
  | m + 1, i, s => impK W rows cols (imp W rows cols n m) i (List.range' 0 n) ⟨s.sr.set i true, s.sc, s.to⟩
def recOf (W : List (List Int)) (rows cols : List Int) (n : Nat) : Nat → Nat → ISt → Bool × ISt
  | 0 => fun _ s => (false, s)
  | m + 1 => imp W rows cols n m
theorem imp_eq {W : List (List Int)} {rows cols : List Int} {n m i : Nat} {s : ISt} : imp W rows cols n m i s = impK W rows cols (recOf W rows cols n m) i (List.range' 0 n) ⟨s.sr.set i true, s.sc, s.to⟩ := by
  cases m <;> rfl
theorem getD_set {α : Type} {l : List α} {i k : Nat} {x d : α} (h : i < l.length) : (l.set i x).getD k d = if i = k then x else l.getD k d := by
  rw [List.getD_eq_getElem?_getD, List.getD_eq_getElem?_getD, getElem?_set_ _ _ _ _ h]
  split <;> rfl
theorem cnt_set : ∀ {l : List Bool} {k : Nat}, k < l.length → l.getD k default = false → (l.set k true).count false + 1 = l.count false
  | [], k, h, _ => by simp at h
  | b :: l, 0, _, h => by
    have : b = false := h
    subst this
    rw [List.set_cons_zero, List.count_cons, List.count_cons]
    simp
  | b :: l, k + 1, h, h2 => by
    have ih := cnt_set (l := l) (k := k) (by simpa using h) (by simpa using h2)
    rw [List.set_cons_succ, List.count_cons, List.count_cons]
    omega
theorem cnt_pos {l : List Bool} {k : Nat} (h : k < l.length) (h2 : l.getD k default = false) : 0 < l.count false := by
  have := cnt_set h h2
  omega
theorem Inv.row {n i : Nat} {s : ISt} (h : Inv n s) : Inv n ⟨s.sr.set i true, s.sc, s.to⟩ := ⟨by simpa using h.sr, h.sc, h.to, h.rg⟩
theorem Inv.col {n k : Nat} {s : ISt} (h : Inv n s) : Inv n ⟨s.sr, s.sc.set k true, s.to⟩ := ⟨h.sr, by simpa using h.sc, h.to, h.rg⟩
theorem Inv.put {n k i : Nat} {s : ISt} (h : Inv n s) (hi : i < n) : Inv n ⟨s.sr, s.sc, s.to.set k i⟩ := ⟨h.sr, h.sc, by simpa using h.to, fun q hq => by
  by_cases hk : k < s.to.length
  · show -1 ≤ (s.to.set k (i : Int)).getD q default ∧ (s.to.set k (i : Int)).getD q default < n
    rw [getD_set hk]
    split
    · omega
    · exact h.rg q hq
  · show -1 ≤ (s.to.set k (i : Int)).getD q default ∧ (s.to.set k (i : Int)).getD q default < n
    rw [List.set_eq_of_length_le (by omega)]
    exact h.rg q hq⟩
theorem impK_inv {W : List (List Int)} {rows cols : List Int} {n i : Nat} {rec : Nat → ISt → Bool × ISt} (hi : i < n) (hrec : ∀ j s, Inv n s → j < n → Inv n (rec j s).2 ∧ cnt (rec j s).2 ≤ cnt s) :
    ∀ (ks : List Nat) (s : ISt), (∀ k ∈ ks, k < n) → Inv n s → Inv n (impK W rows cols rec i ks s).2 ∧ cnt (impK W rows cols rec i ks s).2 ≤ cnt s
  | [], s, _, h => ⟨h, Nat.le_refl _⟩
  | k :: ks, s, hk, h => by
    have hk0 : k < n := hk k (by simp)
    have hks : ∀ k ∈ ks, k < n := fun q hq => hk q (by simp [hq])
    unfold impK
    split
    · exact impK_inv hi hrec ks s hks h
    · rename_i hc
      have hf : s.sc.getD k default = false := by
        cases hb : s.sc.getD k default with
        | false => rfl
        | true => exact absurd (.inl hb) hc
      have hcs := cnt_set (by rw [h.sc]; exact hk0) hf
      have h1 : Inv n ⟨s.sr, s.sc.set k true, s.to⟩ := h.col
      split
      · exact ⟨h1.put hi, by show (s.sc.set k true).count false ≤ s.sc.count false; omega⟩
      · rename_i h0
        have hr := hrec (s.to.getD k default).toNat ⟨s.sr, s.sc.set k true, s.to⟩ h1 (by have := h.rg k hk0; omega)
        have hle : cnt ⟨s.sr, s.sc.set k true, s.to⟩ ≤ cnt s := by show (s.sc.set k true).count false ≤ s.sc.count false; omega
        split
        · rename_i s2 he
          rw [he] at hr
          exact ⟨hr.1.put hi, Nat.le_trans hr.2 hle⟩
        · rename_i s2 he
          rw [he] at hr
          have := impK_inv (W := W) (rows := rows) (cols := cols) hi hrec ks s2 hks hr.1
          exact ⟨this.1, Nat.le_trans this.2 (Nat.le_trans hr.2 hle)⟩
theorem range'_lt {n : Nat} : ∀ k ∈ List.range' 0 n, k < n := fun k hk => by simpa using List.mem_range'_1.1 hk
theorem imp_inv {W : List (List Int)} {rows cols : List Int} {n : Nat} : ∀ (m i : Nat) (s : ISt), Inv n s → i < n → Inv n (imp W rows cols n m i s).2 ∧ cnt (imp W rows cols n m i s).2 ≤ cnt s
  | 0, i, s, h, hi => impK_inv hi (fun j s h _ => ⟨h, Nat.le_refl _⟩) _ _ range'_lt h.row
  | m + 1, i, s, h, hi => impK_inv hi (fun j s h hj => imp_inv m j s h hj) _ _ range'_lt h.row
theorem range'_step {k n : Nat} (h : k < n) : List.range' k (n - k) = k :: List.range' (k + 1) (n - (k + 1)) := by
  obtain ⟨d, hd⟩ : ∃ d, n - k = d + 1 := ⟨n - k - 1, by omega⟩
  rw [hd, show n - (k + 1) = d by omega]
  rfl
theorem impK_skip {W : List (List Int)} {rows cols : List Int} {i k n : Nat} {rec : Nat → ISt → Bool × ISt} {s : ISt} {R : Bool × ISt} (h : k < n) (hR : impK W rows cols rec i (List.range' k (n - k)) s = R) (hc : s.sc.getD k default = true ∨ rows.getD i default + cols.getD k default ≠ (W.getD i default).getD k default) :
    impK W rows cols rec i (List.range' (k + 1) (n - (k + 1))) s = R := by
  rw [range'_step h] at hR
  unfold impK at hR
  rwa [if_pos hc] at hR
theorem impK_free {W : List (List Int)} {rows cols : List Int} {i k n : Nat} {rec : Nat → ISt → Bool × ISt} {s : ISt} {R : Bool × ISt} (h : k < n) (hR : impK W rows cols rec i (List.range' k (n - k)) s = R) (hc : ¬ (s.sc.getD k default = true ∨ rows.getD i default + cols.getD k default ≠ (W.getD i default).getD k default)) (h0 : s.to.getD k default < 0) :
    R = (true, ⟨s.sr, s.sc.set k true, s.to.set k i⟩) := by
  rw [range'_step h] at hR
  unfold impK at hR
  rw [if_neg hc, if_pos h0] at hR
  exact hR.symm
theorem impK_yes {W : List (List Int)} {rows cols : List Int} {i k n : Nat} {rec : Nat → ISt → Bool × ISt} {s : ISt} {R : Bool × ISt} (h : k < n) (hR : impK W rows cols rec i (List.range' k (n - k)) s = R) (hc : ¬ (s.sc.getD k default = true ∨ rows.getD i default + cols.getD k default ≠ (W.getD i default).getD k default)) (h0 : ¬ s.to.getD k default < 0)
    {q : Bool × ISt} (hq : rec (s.to.getD k default).toNat ⟨s.sr, s.sc.set k true, s.to⟩ = q) (h1 : q.1 = true) : R = (true, ⟨q.2.sr, q.2.sc, q.2.to.set k i⟩) := by
  rw [range'_step h] at hR
  unfold impK at hR
  rw [if_neg hc, if_neg h0, hq] at hR
  obtain ⟨b, s2⟩ := q
  obtain rfl : b = true := h1
  exact hR.symm
theorem impK_no {W : List (List Int)} {rows cols : List Int} {i k n : Nat} {rec : Nat → ISt → Bool × ISt} {s : ISt} {R : Bool × ISt} (h : k < n) (hR : impK W rows cols rec i (List.range' k (n - k)) s = R) (hc : ¬ (s.sc.getD k default = true ∨ rows.getD i default + cols.getD k default ≠ (W.getD i default).getD k default)) (h0 : ¬ s.to.getD k default < 0)
    {q : Bool × ISt} (hq : rec (s.to.getD k default).toNat ⟨s.sr, s.sc.set k true, s.to⟩ = q) (h1 : q.1 = false) : impK W rows cols rec i (List.range' (k + 1) (n - (k + 1))) q.2 = R := by
  rw [range'_step h] at hR
  unfold impK at hR
  rw [if_neg hc, if_neg h0, hq] at hR
  obtain ⟨b, s2⟩ := q
  obtain rfl : b = false := h1
  exact hR
theorem impK_end {W : List (List Int)} {rows cols : List Int} {i k n : Nat} {rec : Nat → ISt → Bool × ISt} {s : ISt} {R : Bool × ISt} (h : ¬ k < n) (hR : impK W rows cols rec i (List.range' k (n - k)) s = R) : R = (false, s) := by
  rw [show n - k = 0 by omega] at hR
  exact hR.symm
theorem set_bv {l : List Bool} {i : Nat} {d b : Bool} : (l.map bv).set i (splice (bv d) 0 [.v (.bool b)]) = (l.set i b).map bv := by rw [List.map_set]; rfl
theorem set_iv {l : List Int} {i : Nat} {d b : Int} : (l.map iv).set i (splice (iv d) 0 [.v (.int .i64 b)]) = (l.set i b).map iv := by rw [List.map_set]; rfl

/-! ### .. and its walk -/
def wAV (W : List (List Int)) : AV := .ro (W.map fun r => [.ro (r.map iv)])
def impCaps (g : Nat → Nat) : List Value := [ptv (g 8) 0, ptv (g 4) 0, ptv (g 9) 0, ptv (g 2) 0, ptv (g 3) 0, ptv (g 0) 0, ptv (g 1) 0, ptv (g 10) 0]
def impClo (g : Nat → Nat) : Value := .func (.func 50) #[] (impCaps g).toArray
def impIns (g c : Nat → Nat) (n : Nat) (W : List (List Int)) (rows cols : List Int) (s : ISt) : List AV :=
  [.nm (slv (g 0) 1 (c 0)) 67 [[.ro (W.map fun r => [.ro (r.map iv)])]],
   .nm (slv (g 1) 1 (c 1)) 23 [[.v (slv (g 5) n (c 5))]],
   .nm (slv (g 2) 1 (c 2)) 23 [[.v (slv (g 6) n (c 6))]],
   .nm (slv (g 3) 1 (c 3)) 23 [[.v (slv (g 7) n (c 7))]],
   .nm (slv (g 4) 1 (c 4)) 3 [[.v (.int .i64 n)]],
   .nm (slv (g 5) n (c 5)) 3 (s.to.map iv),
   .nm (slv (g 6) n (c 6)) 3 (rows.map iv),
   .nm (slv (g 7) n (c 7)) 3 (cols.map iv),
   .nm (slv (g 8) 1 (c 8)) 80 [[.v (slv (g 11) n (c 11))]],
   .nm (slv (g 9) 1 (c 9)) 80 [[.v (slv (g 12) n (c 12))]],
   .nm (slv (g 10) 1 (c 10)) 81 [[.v (impClo g)]],
   .nm (slv (g 11) n (c 11)) 4 (s.sr.map bv),
   .nm (slv (g 12) n (c 12)) 4 (s.sc.map bv)]
theorem insT_at {ins : List AV} {r : Nat} {x : AV} (h : ins[r]? = some x) : (insT ins).slots[r]? = some (0, x) := by unfold insT; rw [List.getElem?_map, h]; rfl
theorem impIns_nm {g c : Nat → Nat} {n : Nat} {W : List (List Int)} {rows cols : List Int} {s s' : ISt} : RL nmB (impIns g c n W rows cols s) (impIns g c n W rows cols s') := by
  unfold impIns
  repeat (first | exact RL.nil | refine RL.cons ⟨_, rfl⟩ ?_)
theorem C50 {g c : Nat → Nat} {n : Nat} {W : List (List Int)} {rows cols : List Int} (hn : n ≤ 1000) (hW : W.length = n) (hWr : ∀ i, i < n → (W.getD i default).length = n) (hrl : rows.length = n) (hcl : cols.length = n)
    (hrb : ∀ i, i < n → -1000000000000 ≤ rows.getD i default ∧ rows.getD i default ≤ 1000000000000) (hcb : ∀ i, i < n → -1000000000000 ≤ cols.getD i default ∧ cols.getD i default ≤ 1000000000000) :
    ∀ (m i : Nat) (s : ISt), Inv n s → cnt s ≤ m → i < n → Fn Try.prog 50 (impIns g c n W rows cols s) ((([Value.int .i64 (i : Nat)] : List Value) ++ impCaps g).map AV.v) [.v (.bool (imp W rows cols n m i s).1)] (impIns g c n W rows cols (imp W rows cols n m i s).2) := by
  intro m
  induction m using Nat.strongRecOn with
  | ind m ih => ?_
  intro i s0 hinv0 hcnt hi
  rw [imp_eq]
  generalize hR : impK W rows cols (recOf W rows cols n m) i (List.range' 0 n) ⟨s0.sr.set i true, s0.sc, s0.to⟩ = R
  refine Spec.body Try.func50 rfl Try.ntmps50 (by simp [impCaps]) rfl ?_; intro S0 own0 v0 w0
  (refine AW.seq_k ?_; intro K hK)
  refine AW.region ?_
  refine awP (op_assign rfl rfl) ?_; (try simp only [nA, Nat.reduceBEq, Nat.reduceEqDiff, ↓reduceIte, Nat.reduceAdd, Nat.reduceSub])
  refine AWL.nil ?_
  (refine hK _ ?_; clear hK K; (try simp only [nA, Nat.reduceBEq, Nat.reduceEqDiff, ↓reduceIte, Nat.reduceAdd, Nat.reduceSub]))
  (refine AW.seq_k ?_; intro K hK)
  refine AW.region ?_
  refine awR (op_load_v 8 0 0 0 rfl rfl rfl rfl ag80 sz80 rfl rfl rfl) ?_; (try simp only [nA, Nat.reduceBEq, Nat.reduceEqDiff, ↓reduceIte, Nat.reduceAdd, Nat.reduceSub])
  refine awP (op_move rfl rfl) ?_; (try simp only [nA, Nat.reduceBEq, Nat.reduceEqDiff, ↓reduceIte, Nat.reduceAdd, Nat.reduceSub])
  refine awP (op_ia_v i 1 rfl rfl rfl Try.underlying80 rfl hi sz4 (Nat.mul_one _)) ?_; (try simp only [nA, Nat.reduceBEq, Nat.reduceEqDiff, ↓reduceIte, Nat.reduceAdd, Nat.reduceSub])
  refine awJ (op_store_v 11 0 i 0 rfl rfl rfl rfl (get_mapD (by rw [hinv0.sr]; exact hi)) rfl sz4 rfl sz4 (by simp) (Nat.le_of_ble_eq_true rfl) set_bv (T' := insT (impIns g c n W rows cols ⟨s0.sr.set i true, s0.sc, s0.to⟩)) rfl) ?_; (try simp only [nA, Nat.reduceBEq, Nat.reduceEqDiff, ↓reduceIte, Nat.reduceAdd, Nat.reduceSub])
  refine AWL.nil ?_
  (refine hK _ ?_; clear hK K; (try simp only [nA, Nat.reduceBEq, Nat.reduceEqDiff, ↓reduceIte, Nat.reduceAdd, Nat.reduceSub]))
  (refine AW.seq_k ?_; intro K hK)
  (refine AW.seq_k ?_; intro K hK)
  refine AW.region ?_
  refine awR (op_load_v 4 0 0 0 rfl rfl rfl rfl ag3 sz3 rfl rfl rfl) ?_; (try simp only [nA, Nat.reduceBEq, Nat.reduceEqDiff, ↓reduceIte, Nat.reduceAdd, Nat.reduceSub])
  refine awP (op_move rfl rfl) ?_; (try simp only [nA, Nat.reduceBEq, Nat.reduceEqDiff, ↓reduceIte, Nat.reduceAdd, Nat.reduceSub])
  refine AWL.nil ?_
  (refine hK _ ?_; clear hK K; (try simp only [nA, Nat.reduceBEq, Nat.reduceEqDiff, ↓reduceIte, Nat.reduceAdd, Nat.reduceSub]))
  refine AW.block ?_
  refine AW.loopI (ι := Nat × ISt) (fun p => [(0, .v (.int .i64 (i : Nat))), (1, .v (ptv (g 8) 0)), (2, .v (ptv (g 4) 0)), (3, .v (ptv (g 9) 0)), (4, .v (ptv (g 2) 0)), (5, .v (ptv (g 3) 0)), (6, .v (ptv (g 0) 0)), (7, .v (ptv (g 1) 0)), (8, .v (ptv (g 10) 0)), (15, .v (.int .i64 (n : Nat))), (16, .v (.int .i64 (p.1 : Nat)))]) (fun p => insT (impIns g c n W rows cols p.2)) (fun p => p.1 ≤ n ∧ Inv n p.2 ∧ cnt p.2 ≤ m ∧ impK W rows cols (recOf W rows cols n m) i (List.range' p.1 (n - p.1)) p.2 = R) (fun p => n - p.1) (0, ⟨s0.sr.set i true, s0.sc, s0.to⟩) ⟨Nat.zero_le _, hinv0.row, hcnt, hR⟩ ⟨rfl, rfl, rfl, rfl, rfl, rfl, rfl, rfl, rfl, rfl, rfl, trivial⟩ rfl ?_; rintro ⟨k, s⟩ ρ hI; simp only at hI; simp only [updL]; (try simp only [nA, Nat.reduceBEq, Nat.reduceEqDiff, ↓reduceIte, Nat.reduceAdd, Nat.reduceSub])
  (refine AW.seq_k ?_; intro K hK)
  refine AW.region ?_
  refine awP (op_lss rfl rfl rfl) ?_; (try simp only [nA, Nat.reduceBEq, Nat.reduceEqDiff, ↓reduceIte, Nat.reduceAdd, Nat.reduceSub])
  refine AWL.nil ?_
  (refine hK _ ?_; clear hK K; (try simp only [nA, Nat.reduceBEq, Nat.reduceEqDiff, ↓reduceIte, Nat.reduceAdd, Nat.reduceSub]))
  (refine AW.seq_k ?_; intro K hK)
  refine AW.cond rfl rfl rfl (fun hc => ?_) (fun hc => ?_)
  ·
   (try simp only [hcS] at hc); have hc1 := hc; have hk : k < n := (by omega); have hksc : k < s.sc.length := (by rw [hI.2.1.sc]; exact hk); have hkt : k < s.to.length := (by rw [hI.2.1.to]; exact hk); have hkw : k < (W.getD i default).length := (by rw [hWr i hi]; exact hk); have hb1 := hrb i hi; have hb2 := hcb k hk
   refine AW.skip ?_
   (refine hK _ ?_; clear hK K; (try simp only [nA, Nat.reduceBEq, Nat.reduceEqDiff, ↓reduceIte, Nat.reduceAdd, Nat.reduceSub]))
   (refine AW.seq_k ?_; intro K hK)
   refine AW.block ?_
   (refine AW.seq_k ?_; intro K hK)
   refine AW.region ?_
   refine awP (op_move rfl rfl) ?_; (try simp only [nA, Nat.reduceBEq, Nat.reduceEqDiff, ↓reduceIte, Nat.reduceAdd, Nat.reduceSub])
   refine awP (op_assign rfl rfl) ?_; (try simp only [nA, Nat.reduceBEq, Nat.reduceEqDiff, ↓reduceIte, Nat.reduceAdd, Nat.reduceSub])
   refine AWL.nil ?_
   (refine hK _ ?_; clear hK K; (try simp only [nA, Nat.reduceBEq, Nat.reduceEqDiff, ↓reduceIte, Nat.reduceAdd, Nat.reduceSub]))
   (refine AW.seq_k ?_; intro K hK)
   (refine AW.seq_k ?_; intro K hK)
   refine AW.quiet mix (by kernel_rfl) ?_
   refine aqR (op_load_v 9 0 0 0 rfl rfl rfl rfl ag80 sz80 rfl rfl rfl) ?_; (try simp only [nA, Nat.reduceBEq, Nat.reduceEqDiff, ↓reduceIte, Nat.reduceAdd, Nat.reduceSub])
   refine aqP (op_move rfl rfl) ?_; (try simp only [nA, Nat.reduceBEq, Nat.reduceEqDiff, ↓reduceIte, Nat.reduceAdd, Nat.reduceSub])
   refine aqP (op_ia_v k 1 rfl rfl rfl Try.underlying80 rfl hk sz4 (Nat.mul_one _)) ?_; (try simp only [nA, Nat.reduceBEq, Nat.reduceEqDiff, ↓reduceIte, Nat.reduceAdd, Nat.reduceSub])
   refine aqR (op_load_v 12 0 k 0 rfl rfl rfl (get_mapD hksc) ag4 sz4 (by simp) rfl rfl) ?_; (try simp only [nA, Nat.reduceBEq, Nat.reduceEqDiff, ↓reduceIte, Nat.reduceAdd, Nat.reduceSub])
   refine aqP (op_move rfl rfl) ?_; (try simp only [nA, Nat.reduceBEq, Nat.reduceEqDiff, ↓reduceIte, Nat.reduceAdd, Nat.reduceSub])
   refine' aqOr' [_, _, _, _, _, _, _, _, _, _, _, _, _, _, _, _, _] [24,25,26,27,28,29,30,31,32,33,34,35,36,37,38,39,40] rfl rfl rfl rfl rfl rfl rfl rfl rfl rfl rfl rfl (fun hb => ?_) ?_; rotate_left
   ·
    (try simp only [hcS] at hb)
    refine aqR (op_load_v 2 0 0 0 rfl rfl rfl rfl ag23 sz23 rfl rfl rfl) ?_; (try simp only [nA, Nat.reduceBEq, Nat.reduceEqDiff, ↓reduceIte, Nat.reduceAdd, Nat.reduceSub])
    refine aqP (op_move rfl rfl) ?_; (try simp only [nA, Nat.reduceBEq, Nat.reduceEqDiff, ↓reduceIte, Nat.reduceAdd, Nat.reduceSub])
    refine aqP (op_ia_v i 1 rfl rfl rfl Try.underlying23 rfl hi sz3 (Nat.mul_one _)) ?_; (try simp only [nA, Nat.reduceBEq, Nat.reduceEqDiff, ↓reduceIte, Nat.reduceAdd, Nat.reduceSub])
    refine aqR (op_load_v 6 0 i 0 rfl rfl rfl (get_mapD (by omega)) ag3 sz3 (by simp) rfl rfl) ?_; (try simp only [nA, Nat.reduceBEq, Nat.reduceEqDiff, ↓reduceIte, Nat.reduceAdd, Nat.reduceSub])
    refine aqR (op_load_v 3 0 0 0 rfl rfl rfl rfl ag23 sz23 rfl rfl rfl) ?_; (try simp only [nA, Nat.reduceBEq, Nat.reduceEqDiff, ↓reduceIte, Nat.reduceAdd, Nat.reduceSub])
    refine aqP (op_move rfl rfl) ?_; (try simp only [nA, Nat.reduceBEq, Nat.reduceEqDiff, ↓reduceIte, Nat.reduceAdd, Nat.reduceSub])
    refine aqP (op_ia_v k 1 rfl rfl rfl Try.underlying23 rfl hk sz3 (Nat.mul_one _)) ?_; (try simp only [nA, Nat.reduceBEq, Nat.reduceEqDiff, ↓reduceIte, Nat.reduceAdd, Nat.reduceSub])
    refine aqR (op_load_v 7 0 k 0 rfl rfl rfl (get_mapD (by omega)) ag3 sz3 (by simp) rfl rfl) ?_; (try simp only [nA, Nat.reduceBEq, Nat.reduceEqDiff, ↓reduceIte, Nat.reduceAdd, Nat.reduceSub])
    (first | refine aqP (op_addi rfl rfl rfl (by omega)) ?_ | refine aqP (op_add rfl rfl rfl rfl) ?_); (try simp only [nA, Nat.reduceBEq, Nat.reduceEqDiff, ↓reduceIte, Nat.reduceAdd, Nat.reduceSub])
    refine aqR (op_load_v 0 0 0 0 rfl rfl rfl rfl ag67 sz67 rfl rfl rfl) ?_; (try simp only [nA, Nat.reduceBEq, Nat.reduceEqDiff, ↓reduceIte, Nat.reduceAdd, Nat.reduceSub])
    refine aqP (op_move rfl rfl) ?_; (try simp only [nA, Nat.reduceBEq, Nat.reduceEqDiff, ↓reduceIte, Nat.reduceAdd, Nat.reduceSub])
    refine aqP (op_ia_ro i rfl (.inl rfl) rfl Try.underlying67 rfl (get_mapD (by omega)) (by exact sz23) (Nat.le_of_ble_eq_true rfl)) ?_; (try simp only [nA, Nat.reduceBEq, Nat.reduceEqDiff, ↓reduceIte, Nat.reduceAdd, Nat.reduceSub])
    refine aqR (op_load_rop1 rfl rfl ag23) ?_; (try simp only [nA, Nat.reduceBEq, Nat.reduceEqDiff, ↓reduceIte, Nat.reduceAdd, Nat.reduceSub])
    refine aqP (op_move rfl rfl) ?_; (try simp only [nA, Nat.reduceBEq, Nat.reduceEqDiff, ↓reduceIte, Nat.reduceAdd, Nat.reduceSub])
    refine aqP (op_ia_ro k rfl (.inl rfl) rfl Try.underlying23 rfl (get_mapD hkw) (by exact sz3) (Nat.le_of_ble_eq_true rfl)) ?_; (try simp only [nA, Nat.reduceBEq, Nat.reduceEqDiff, ↓reduceIte, Nat.reduceAdd, Nat.reduceSub])
    refine aqR (op_load_rop1 rfl rfl ag3) ?_; (try simp only [nA, Nat.reduceBEq, Nat.reduceEqDiff, ↓reduceIte, Nat.reduceAdd, Nat.reduceSub])
    (first | refine aqP (op_neq rfl rfl rfl) ?_ | refine aqP (op_sneq rfl rfl rfl) ?_); (try simp only [nA, Nat.reduceBEq, Nat.reduceEqDiff, ↓reduceIte, Nat.reduceAdd, Nat.reduceSub])
    (refine aqSeg rfl rfl rfl ?_; repeat (first | exact fun _ _ => rfl | refine upd_out rfl ?_ | refine era_out rfl ?_))
   (try simp only [nA, Nat.reduceBEq, Nat.reduceEqDiff, ↓reduceIte, Nat.reduceAdd, Nat.reduceSub])
   refine AQ.nil ?_
   (refine hK _ ?_; clear hK K; (try simp only [nA, Nat.reduceBEq, Nat.reduceEqDiff, ↓reduceIte, Nat.reduceAdd, Nat.reduceSub]))
   refine AW.cond rfl rfl rfl (fun hc => ?_) (fun hc => ?_)
   ·
    (try simp only [hcS] at hc); have hc2 := hc; skip
    refine AW.exit ?_; (try simp only [thenE, inBlk, Nat.reduceEqDiff, ↓reduceIte])
    clear hK K
    (refine hK _ ?_; clear hK K; (try simp only [nA, Nat.reduceBEq, Nat.reduceEqDiff, ↓reduceIte, Nat.reduceAdd, Nat.reduceSub]))
    refine AW.region ?_
    (first | refine awP (op_addi rfl rfl rfl (by omega)) ?_ | refine awP (op_add rfl rfl rfl rfl) ?_); (try simp only [nA, Nat.reduceBEq, Nat.reduceEqDiff, ↓reduceIte, Nat.reduceAdd, Nat.reduceSub])
    refine awP (op_move rfl rfl) ?_; (try simp only [nA, Nat.reduceBEq, Nat.reduceEqDiff, ↓reduceIte, Nat.reduceAdd, Nat.reduceSub])
    skip
    refine AWL.nil ?_
    refine ⟨(k + 1, s), ⟨by dsimp only; omega, hI.2.1, hI.2.2.1, impK_skip hk hI.2.2.2 (by simpa using hc2)⟩, by dsimp only; omega, ⟨rfl, rfl, rfl, rfl, rfl, rfl, rfl, rfl, rfl, rfl, rfl, trivial⟩, (by first | rfl | trivial), (by first | rfl | trivial)⟩
   ·
    (try simp only [hcS] at hc); have hc2 := hc; have hc2' : ¬ (s.sc.getD k default = true ∨ rows.getD i default + cols.getD k default ≠ (W.getD i default).getD k default) := (by simpa using hc2)
    refine AW.skip ?_
    (refine hK _ ?_; clear hK K; (try simp only [nA, Nat.reduceBEq, Nat.reduceEqDiff, ↓reduceIte, Nat.reduceAdd, Nat.reduceSub]))
    (refine AW.seq_k ?_; intro K hK)
    refine AW.region ?_
    refine awR (op_load_v 9 0 0 0 rfl rfl rfl rfl ag80 sz80 rfl rfl rfl) ?_; (try simp only [nA, Nat.reduceBEq, Nat.reduceEqDiff, ↓reduceIte, Nat.reduceAdd, Nat.reduceSub])
    refine awP (op_move rfl rfl) ?_; (try simp only [nA, Nat.reduceBEq, Nat.reduceEqDiff, ↓reduceIte, Nat.reduceAdd, Nat.reduceSub])
    refine awP (op_ia_v k 1 rfl rfl rfl Try.underlying80 rfl hk sz4 (Nat.mul_one _)) ?_; (try simp only [nA, Nat.reduceBEq, Nat.reduceEqDiff, ↓reduceIte, Nat.reduceAdd, Nat.reduceSub])
    refine awJ (op_store_v 12 0 k 0 rfl rfl rfl rfl (get_mapD hksc) rfl sz4 rfl sz4 (by simp) (Nat.le_of_ble_eq_true rfl) set_bv (T' := insT (impIns g c n W rows cols ⟨s.sr, s.sc.set k true, s.to⟩)) rfl) ?_; (try simp only [nA, Nat.reduceBEq, Nat.reduceEqDiff, ↓reduceIte, Nat.reduceAdd, Nat.reduceSub])
    refine AWL.nil ?_
    (refine hK _ ?_; clear hK K; (try simp only [nA, Nat.reduceBEq, Nat.reduceEqDiff, ↓reduceIte, Nat.reduceAdd, Nat.reduceSub]))
    (refine AW.seq_k ?_; intro K hK)
    refine AW.quiet_tail 11 mix (by kernel_rfl) rfl rfl ?_
    refine aqR (op_load_v 1 0 0 0 rfl rfl rfl rfl ag23 sz23 rfl rfl rfl) ?_; (try simp only [nA, Nat.reduceBEq, Nat.reduceEqDiff, ↓reduceIte, Nat.reduceAdd, Nat.reduceSub])
    refine aqP (op_move rfl rfl) ?_; (try simp only [nA, Nat.reduceBEq, Nat.reduceEqDiff, ↓reduceIte, Nat.reduceAdd, Nat.reduceSub])
    refine aqP (op_ia_v k 1 rfl rfl rfl Try.underlying23 rfl hk sz3 (Nat.mul_one _)) ?_; (try simp only [nA, Nat.reduceBEq, Nat.reduceEqDiff, ↓reduceIte, Nat.reduceAdd, Nat.reduceSub])
    refine aqR (op_load_v 5 0 k 0 rfl rfl rfl (get_mapD hkt) ag3 sz3 (by simp) rfl rfl) ?_; (try simp only [nA, Nat.reduceBEq, Nat.reduceEqDiff, ↓reduceIte, Nat.reduceAdd, Nat.reduceSub])
    refine aqP (op_lss rfl rfl rfl) ?_; (try simp only [nA, Nat.reduceBEq, Nat.reduceEqDiff, ↓reduceIte, Nat.reduceAdd, Nat.reduceSub])
    refine aqP (op_move rfl rfl) ?_; (try simp only [nA, Nat.reduceBEq, Nat.reduceEqDiff, ↓reduceIte, Nat.reduceAdd, Nat.reduceSub])
    by_cases h0 : s.to.getD k default < 0
    ·
     have hd0 : decide (s.to.getD k default < 0) = true := decide_eq_true h0
     refine aqNo 5 50 ?_ (congrArg (fun z => AV.v (.bool z)) hd0) rfl rfl rfl rfl; (try simp only [nA, Nat.reduceBEq, Nat.reduceEqDiff, ↓reduceIte, Nat.reduceAdd, Nat.reduceSub])
     refine aqNo 5 50 ?_ (congrArg (fun z => AV.v (.bool z)) hd0) rfl rfl rfl rfl; (try simp only [nA, Nat.reduceBEq, Nat.reduceEqDiff, ↓reduceIte, Nat.reduceAdd, Nat.reduceSub])
     refine aqNo 5 50 ?_ (congrArg (fun z => AV.v (.bool z)) hd0) rfl rfl rfl rfl; (try simp only [nA, Nat.reduceBEq, Nat.reduceEqDiff, ↓reduceIte, Nat.reduceAdd, Nat.reduceSub])
     refine aqNo 5 50 ?_ (congrArg (fun z => AV.v (.bool z)) hd0) rfl rfl rfl rfl; (try simp only [nA, Nat.reduceBEq, Nat.reduceEqDiff, ↓reduceIte, Nat.reduceAdd, Nat.reduceSub])
     refine aqNo 5 50 ?_ (congrArg (fun z => AV.v (.bool z)) hd0) rfl rfl rfl rfl; (try simp only [nA, Nat.reduceBEq, Nat.reduceEqDiff, ↓reduceIte, Nat.reduceAdd, Nat.reduceSub])
     refine AQ.nil ?_
     refine awNo 5 50 ?_ (congrArg (fun z => AV.v (.bool z)) hd0) rfl rfl rfl rfl; (try simp only [nA, Nat.reduceBEq, Nat.reduceEqDiff, ↓reduceIte, Nat.reduceAdd, Nat.reduceSub])
     refine awP (op_pick rfl (congrArg (fun z => AV.v (.bool z)) hd0) rfl) ?_; (try simp only [nA, Nat.reduceBEq, Nat.reduceEqDiff, ↓reduceIte, Nat.reduceAdd, Nat.reduceSub])
     refine AWL.nil ?_
     (refine hK _ ?_; clear hK K; (try simp only [nA, Nat.reduceBEq, Nat.reduceEqDiff, ↓reduceIte, Nat.reduceAdd, Nat.reduceSub]))
     refine AW.cond rfl rfl rfl (fun hc => ?_) (fun hc => by cases hc)
     (refine AW.seq_k ?_; intro K hK)
     refine AW.region ?_
     refine awR (op_load_v 1 0 0 0 rfl rfl rfl rfl ag23 sz23 rfl rfl rfl) ?_; (try simp only [nA, Nat.reduceBEq, Nat.reduceEqDiff, ↓reduceIte, Nat.reduceAdd, Nat.reduceSub])
     refine awP (op_move rfl rfl) ?_; (try simp only [nA, Nat.reduceBEq, Nat.reduceEqDiff, ↓reduceIte, Nat.reduceAdd, Nat.reduceSub])
     refine awP (op_move rfl rfl) ?_; (try simp only [nA, Nat.reduceBEq, Nat.reduceEqDiff, ↓reduceIte, Nat.reduceAdd, Nat.reduceSub])
     refine awP (op_ia_v k 1 rfl rfl rfl Try.underlying23 rfl hk sz3 (Nat.mul_one _)) ?_; (try simp only [nA, Nat.reduceBEq, Nat.reduceEqDiff, ↓reduceIte, Nat.reduceAdd, Nat.reduceSub])
     refine awJ (op_store_v 5 0 k 0 rfl rfl rfl rfl (get_mapD hkt) rfl sz3 rfl sz3 (by simp) (Nat.le_of_ble_eq_true rfl) set_iv (T' := insT (impIns g c n W rows cols ⟨s.sr, s.sc.set k true, s.to.set k i⟩)) rfl) ?_; (try simp only [nA, Nat.reduceBEq, Nat.reduceEqDiff, ↓reduceIte, Nat.reduceAdd, Nat.reduceSub])
     refine AWL.nil ?_
     (refine hK _ ?_; clear hK K; (try simp only [nA, Nat.reduceBEq, Nat.reduceEqDiff, ↓reduceIte, Nat.reduceAdd, Nat.reduceSub]))
     (refine AW.seq_k ?_; intro K hK)
     refine AW.region ?_
     refine awP (op_assign rfl rfl) ?_; (try simp only [nA, Nat.reduceBEq, Nat.reduceEqDiff, ↓reduceIte, Nat.reduceAdd, Nat.reduceSub])
     refine AWL.nil ?_
     (refine hK _ ?_; clear hK K; (try simp only [nA, Nat.reduceBEq, Nat.reduceEqDiff, ↓reduceIte, Nat.reduceAdd, Nat.reduceSub]))
     refine AW.ret ?_; (try simp only [thenE, inBlk, Nat.reduceEqDiff, ↓reduceIte])
     rw [impK_free hk hI.2.2.2 hc2' h0]
     exact RQ.of (.inl rfl) rfl (.tmp (Nat.le_of_ble_eq_true rfl) rfl rfl .nil) (by simp) rfl (fun r y hy => insT_at hy)
    ·
     have hd0 : decide (s.to.getD k default < 0) = false := decide_eq_false h0
     have hrg := hI.2.1.rg k hk
     have htn : s.to.getD k default = ((s.to.getD k default).toNat : Int) := by omega
     have hcs := cnt_set (l := s.sc) (k := k) hksc (by cases hb : s.sc.getD k default with | false => rfl | true => exact absurd (.inl hb) hc2')
     obtain ⟨m', rfl⟩ : ∃ m', m = m' + 1 := ⟨m - 1, by have := hI.2.2.1; unfold cnt at this; omega⟩
     have hinv := imp_inv (W := W) (rows := rows) (cols := cols) m' (s.to.getD k default).toNat _ (hI.2.1.col (k := k)) (by omega)
     have hcall := ih m' (Nat.lt_succ_self _) (s.to.getD k default).toNat ⟨s.sr, s.sc.set k true, s.to⟩ hI.2.1.col (by have := hI.2.2.1; unfold cnt at this ⊢; show (s.sc.set k true).count false ≤ m'; omega) (by omega)
     generalize hq : imp W rows cols n m' (s.to.getD k default).toNat ⟨s.sr, s.sc.set k true, s.to⟩ = q at hcall hinv
     refine aqYes 5 50 (OpR.q (op_load_v 10 0 0 0 rfl rfl rfl rfl ag81 sz81 rfl rfl rfl)) ?_ (congrArg (fun z => AV.v (.bool z)) hd0) rfl rfl rfl rfl; (try simp only [nA, Nat.reduceBEq, Nat.reduceEqDiff, ↓reduceIte, Nat.reduceAdd, Nat.reduceSub])
     refine aqYes 5 50 (OpR.q (op_load_v 1 0 0 0 rfl rfl rfl rfl ag23 sz23 rfl rfl rfl)) ?_ (congrArg (fun z => AV.v (.bool z)) hd0) rfl rfl rfl rfl; (try simp only [nA, Nat.reduceBEq, Nat.reduceEqDiff, ↓reduceIte, Nat.reduceAdd, Nat.reduceSub])
     refine aqYes 5 50 (OpP.q (op_move rfl rfl)) ?_ (congrArg (fun z => AV.v (.bool z)) hd0) rfl rfl rfl rfl; (try simp only [nA, Nat.reduceBEq, Nat.reduceEqDiff, ↓reduceIte, Nat.reduceAdd, Nat.reduceSub])
     refine aqYes 5 50 (OpP.q (op_ia_v k 1 rfl rfl rfl Try.underlying23 rfl hk sz3 (Nat.mul_one _))) ?_ (congrArg (fun z => AV.v (.bool z)) hd0) rfl rfl rfl rfl; (try simp only [nA, Nat.reduceBEq, Nat.reduceEqDiff, ↓reduceIte, Nat.reduceAdd, Nat.reduceSub])
     refine aqYes 5 50 (OpR.q (op_load_v 5 0 k 0 rfl rfl rfl (get_mapD hkt) ag3 sz3 (by simp) rfl rfl)) ?_ (congrArg (fun z => AV.v (.bool z)) hd0) rfl rfl rfl rfl; (try simp only [nA, Nat.reduceBEq, Nat.reduceEqDiff, ↓reduceIte, Nat.reduceAdd, Nat.reduceSub])
     refine AQ.nil ?_
     refine awYes 5 50 (op_callAll rfl rfl en50 hcall (congrArg (fun z => [AV.v (.int .i64 z)]) htn) rfl rfl (T' := insT (impIns g c n W rows cols q.2)) rfl rfl rfl impIns_nm rfl rfl) ?_ (congrArg (fun z => AV.v (.bool z)) hd0) rfl rfl rfl rfl; (try simp only [nA, Nat.reduceBEq, Nat.reduceEqDiff, ↓reduceIte, Nat.reduceAdd, Nat.reduceSub])
     refine awP (op_pick rfl (congrArg (fun z => AV.v (.bool z)) hd0) rfl) ?_; (try simp only [nA, Nat.reduceBEq, Nat.reduceEqDiff, ↓reduceIte, Nat.reduceAdd, Nat.reduceSub])
     refine AWL.nil ?_
     (refine hK _ ?_; clear hK K; (try simp only [nA, Nat.reduceBEq, Nat.reduceEqDiff, ↓reduceIte, Nat.reduceAdd, Nat.reduceSub]))
     refine AW.cond rfl rfl rfl (fun hc => ?_) (fun hc => ?_)
     ·
      have hkt2 : k < q.2.to.length := by rw [hinv.1.to]; exact hk
      (refine AW.seq_k ?_; intro K hK)
      refine AW.region ?_
      refine awR (op_load_v 1 0 0 0 rfl rfl rfl rfl ag23 sz23 rfl rfl rfl) ?_; (try simp only [nA, Nat.reduceBEq, Nat.reduceEqDiff, ↓reduceIte, Nat.reduceAdd, Nat.reduceSub])
      refine awP (op_move rfl rfl) ?_; (try simp only [nA, Nat.reduceBEq, Nat.reduceEqDiff, ↓reduceIte, Nat.reduceAdd, Nat.reduceSub])
      refine awP (op_move rfl rfl) ?_; (try simp only [nA, Nat.reduceBEq, Nat.reduceEqDiff, ↓reduceIte, Nat.reduceAdd, Nat.reduceSub])
      refine awP (op_ia_v k 1 rfl rfl rfl Try.underlying23 rfl hk sz3 (Nat.mul_one _)) ?_; (try simp only [nA, Nat.reduceBEq, Nat.reduceEqDiff, ↓reduceIte, Nat.reduceAdd, Nat.reduceSub])
      refine awJ (op_store_v 5 0 k 0 rfl rfl rfl rfl (get_mapD hkt2) rfl sz3 rfl sz3 (by simp) (Nat.le_of_ble_eq_true rfl) set_iv (T' := insT (impIns g c n W rows cols ⟨q.2.sr, q.2.sc, q.2.to.set k i⟩)) rfl) ?_; (try simp only [nA, Nat.reduceBEq, Nat.reduceEqDiff, ↓reduceIte, Nat.reduceAdd, Nat.reduceSub])
      refine AWL.nil ?_
      (refine hK _ ?_; clear hK K; (try simp only [nA, Nat.reduceBEq, Nat.reduceEqDiff, ↓reduceIte, Nat.reduceAdd, Nat.reduceSub]))
      (refine AW.seq_k ?_; intro K hK)
      refine AW.region ?_
      refine awP (op_assign rfl rfl) ?_; (try simp only [nA, Nat.reduceBEq, Nat.reduceEqDiff, ↓reduceIte, Nat.reduceAdd, Nat.reduceSub])
      refine AWL.nil ?_
      (refine hK _ ?_; clear hK K; (try simp only [nA, Nat.reduceBEq, Nat.reduceEqDiff, ↓reduceIte, Nat.reduceAdd, Nat.reduceSub]))
      refine AW.ret ?_; (try simp only [thenE, inBlk, Nat.reduceEqDiff, ↓reduceIte])
      rw [impK_yes hk hI.2.2.2 hc2' h0 hq hc]
      exact RQ.of (.inl rfl) rfl (.tmp (Nat.le_of_ble_eq_true rfl) rfl rfl .nil) (by simp) rfl (fun r y hy => insT_at hy)
     ·
      refine AW.skip ?_
      (try simp only [thenE, inBlk, Nat.reduceEqDiff, ↓reduceIte])
      (refine hK _ ?_; clear hK K; (try simp only [nA, Nat.reduceBEq, Nat.reduceEqDiff, ↓reduceIte, Nat.reduceAdd, Nat.reduceSub]))
      refine AW.region ?_
      refine awP (op_addi rfl rfl rfl (by omega)) ?_; (try simp only [nA, Nat.reduceBEq, Nat.reduceEqDiff, ↓reduceIte, Nat.reduceAdd, Nat.reduceSub])
      refine awP (op_move rfl rfl) ?_; (try simp only [nA, Nat.reduceBEq, Nat.reduceEqDiff, ↓reduceIte, Nat.reduceAdd, Nat.reduceSub])
      refine AWL.nil ?_
      refine ⟨(k + 1, q.2), ⟨by dsimp only; omega, hinv.1, by have h1 := hinv.2; have h2 := hI.2.2.1; unfold cnt at h1 h2 ⊢; show q.2.sc.count false ≤ m' + 1; have h3 : q.2.sc.count false ≤ (s.sc.set k true).count false := h1; omega, impK_no hk hI.2.2.2 hc2' h0 hq hc⟩, by dsimp only; omega, ⟨rfl, rfl, rfl, rfl, rfl, rfl, rfl, rfl, rfl, rfl, rfl, trivial⟩, (by first | rfl | trivial), (by first | rfl | trivial)⟩
  ·
   (try simp only [hcS] at hc); have hc1 := hc; skip
   refine AW.exit ?_; (try simp only [thenE, inBlk, Nat.reduceEqDiff, ↓reduceIte])
   clear hK K
   (refine hK _ ?_; clear hK K; (try simp only [nA, Nat.reduceBEq, Nat.reduceEqDiff, ↓reduceIte, Nat.reduceAdd, Nat.reduceSub]))
   (refine AW.seq_k ?_; intro K hK)
   refine AW.region ?_
   refine awP (op_assign rfl rfl) ?_; (try simp only [nA, Nat.reduceBEq, Nat.reduceEqDiff, ↓reduceIte, Nat.reduceAdd, Nat.reduceSub])
   refine AWL.nil ?_
   (refine hK _ ?_; clear hK K; (try simp only [nA, Nat.reduceBEq, Nat.reduceEqDiff, ↓reduceIte, Nat.reduceAdd, Nat.reduceSub]))
   skip
   refine AW.ret ?_; (try simp only [thenE, inBlk, Nat.reduceEqDiff, ↓reduceIte]); rw [impK_end (by omega) hI.2.2.2]; exact RQ.of (.inl rfl) rfl (.tmp (Nat.le_of_ble_eq_true rfl) rfl rfl .nil) (by simp) rfl (fun r y hy => insT_at hy)
end Go.Proofs.Ytjgbbffcjbmjmaa
