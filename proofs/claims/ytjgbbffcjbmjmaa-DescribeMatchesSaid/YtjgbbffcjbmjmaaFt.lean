import Derived.Test.YtjgbbffcjbmjmaaFs
namespace Go.Proofs.Ytjgbbffcjbmjmaa
open Go.RowKit
set_option linter.unusedSimpArgs false
set_option linter.unusedVariables false

theorem op_shl {C : Cx} {o : Oper} {ev : Operand → AV} {T : Sl} {t yt : TypeId} {p q : Operand} {k k' : IntKind} {x y z : Int} (ho : o.op = .binOp .shl t p q yt) (hp : ev p = .v (.int k x)) (hq : ev q = .v (.int k' y)) (h0 : 0 ≤ y) (hz : k.wrap (x * 2 ^ min y.toNat k.bits) = z) : OpP C o ev T (.v (.int k z)) := by
  refine op_bin ho hp hq (fun w => by unfold eqGuard; simp) (fun w => ?_) rfl
  subst hz
  simp [binOp, Op.shift, show ¬ y < 0 by omega]
theorem op_or {C : Cx} {o : Oper} {ev : Operand → AV} {T : Sl} {t yt : TypeId} {p q : Operand} {k : IntKind} {x y z : Int} (ho : o.op = .binOp .or t p q yt) (hp : ev p = .v (.int k x)) (hq : ev q = .v (.int k y)) (hz : k.wrap ((BitVec.ofInt k.bits x ||| BitVec.ofInt k.bits y).toNat) = z) : OpP C o ev T (.v (.int k z)) :=
  op_bin ho hp hq (eqGuard_int _ _ _ _ _ _ _) (fun w => by simp only [binOp, Op.intBits, hz, ne_eq, not_true_eq_false, if_false]; rfl) rfl
theorem shl_eq {k : Nat} (h : k < 8) : IntKind.i64.wrap (1 * 2 ^ min ((k : Nat) : Int).toNat IntKind.i64.bits) = ((2 ^ k : Nat) : Int) := by
  have h2 : 2 ^ k < 256 := Nat.pow_lt_pow_right (by omega) h
  have h1 : min ((k : Nat) : Int).toNat IntKind.i64.bits = k := by show min ((k : Nat) : Int).toNat 64 = k; omega
  rw [h1, Int.one_mul]
  have := wrap_small h2
  simpa using this
theorem or_eq {m n : Nat} (hm : m < 256) (hn : n < 256) : IntKind.i64.wrap ((BitVec.ofInt IntKind.i64.bits (m : Int) ||| BitVec.ofInt IntKind.i64.bits (n : Int)).toNat) = ((m ||| n : Nat) : Int) := by
  have h : m ||| n < 256 := Nat.or_lt_two_pow (n := 8) hm hn
  rw [BitVec.toNat_or, show (BitVec.ofInt IntKind.i64.bits (m : Int)).toNat = m from ofInt_nat hm, show (BitVec.ofInt IntKind.i64.bits (n : Int)).toNat = n from ofInt_nat hn, wrap_small h]
/-- one column tried -/
def bstep (sc : Nat → Nat → Int) (i used : Nat) (g : Nat → Int) (b : Int) (k : Nat) : Int := if bt used k = 1 then b else if 0 < sc i k then max b (sc i k + g (used ||| 2 ^ k)) else b
def bestN (sc : Nat → Nat → Int) (F : Nat) : Nat → Nat → Nat → Int
  | 0, _, _ => 0
  | d + 1, i, used => (List.range F).foldl (bstep sc i used fun u => bestN sc F d (i + 1) u) (bestN sc F d (i + 1) used)
def bpre (sc : Nat → Nat → Int) (F d i used k : Nat) : Int := (List.range k).foldl (bstep sc i used fun u => bestN sc F d (i + 1) u) (bestN sc F d (i + 1) used)
section
variable {sc : Nat → Nat → Int} {F d i used k : Nat}
theorem bpre_zero : bpre sc F d i used 0 = bestN sc F d (i + 1) used := rfl
theorem bpre_succ : bpre sc F d i used (k + 1) = bstep sc i used (fun u => bestN sc F d (i + 1) u) (bpre sc F d i used k) k := by
  unfold bpre
  rw [List.range_succ, List.foldl_append]
  rfl
theorem bpre_end : bpre sc F d i used F = bestN sc F (d + 1) i used := rfl
theorem bpre_skip (h : bt used k = 1) : bpre sc F d i used (k + 1) = bpre sc F d i used k := by rw [bpre_succ]; unfold bstep; rw [if_pos h]
theorem bpre_no (h : ¬ bt used k = 1) (h2 : ¬ 0 < sc i k) : bpre sc F d i used (k + 1) = bpre sc F d i used k := by rw [bpre_succ]; unfold bstep; rw [if_neg h, if_neg h2]
theorem bpre_yes (h : ¬ bt used k = 1) (h2 : 0 < sc i k) : bpre sc F d i used (k + 1) = max (bpre sc F d i used k) (sc i k + bestN sc F d (i + 1) (used ||| 2 ^ k)) := by rw [bpre_succ]; unfold bstep; rw [if_neg h, if_pos h2]
theorem bpre_cases {P : Int → Prop} (h0 : P (bestN sc F d (i + 1) used)) (h1 : ∀ k, k < F → ¬ bt used k = 1 → 0 < sc i k → P (sc i k + bestN sc F d (i + 1) (used ||| 2 ^ k))) : ∀ k, k ≤ F → P (bpre sc F d i used k)
  | 0, _ => h0
  | k + 1, hk => by
    have ih := bpre_cases h0 h1 k (by omega)
    by_cases h : bt used k = 1
    · rw [bpre_skip h]; exact ih
    · by_cases h2 : 0 < sc i k
      · rw [bpre_yes h h2]
        rcases Int.le_total (bpre sc F d i used k) (sc i k + bestN sc F d (i + 1) (used ||| 2 ^ k)) with h3 | h3
        · rw [show max _ _ = _ from Int.max_eq_right h3]; exact h1 k (by omega) h h2
        · rw [show max _ _ = _ from Int.max_eq_left h3]; exact ih
      · rw [bpre_no h h2]; exact ih
theorem bpre_ge0 : ∀ k, bestN sc F d (i + 1) used ≤ bpre sc F d i used k
  | 0 => Int.le_refl _
  | k + 1 => by
    have ih := bpre_ge0 k
    by_cases h : bt used k = 1
    · rw [bpre_skip h]; exact ih
    · by_cases h2 : 0 < sc i k
      · rw [bpre_yes h h2]; omega
      · rw [bpre_no h h2]; exact ih
theorem bpre_ge (q : Nat) (h : ¬ bt used q = 1) (h2 : 0 < sc i q) : ∀ k, q < k → sc i q + bestN sc F d (i + 1) (used ||| 2 ^ q) ≤ bpre sc F d i used k
  | 0, hk => by omega
  | k + 1, hk => by
    by_cases hqk : q = k
    · subst hqk
      rw [bpre_yes h h2]; omega
    · have ih := bpre_ge q h h2 k (by omega)
      by_cases h3 : bt used k = 1
      · rw [bpre_skip h3]; exact ih
      · by_cases h4 : 0 < sc i k
        · rw [bpre_yes h3 h4]; omega
        · rw [bpre_no h3 h4]; exact ih
end
theorem best_bd {sc : Nat → Nat → Int} {F : Nat} {B : Int} (hsc : ∀ i k, 0 ≤ sc i k ∧ sc i k ≤ B) : ∀ (d i used : Nat), 0 ≤ bestN sc F d i used ∧ bestN sc F d i used ≤ B * d
  | 0, _, _ => ⟨Int.le_refl _, by simp [bestN]⟩
  | d + 1, i, used => by
    rw [← bpre_end]
    have e : B * ((d + 1 : Nat) : Int) = B * d + B := by rw [show ((d + 1 : Nat) : Int) = (d : Int) + 1 from rfl, Int.mul_add, Int.mul_one]
    rw [e]
    refine bpre_cases (P := fun b => 0 ≤ b ∧ b ≤ B * d + B) ?_ (fun k _ _ _ => ?_) F (Nat.le_refl _)
    · have h1 := best_bd (F := F) hsc d (i + 1) used
      have h2 := hsc 0 0
      omega
    · have h1 := best_bd (F := F) hsc d (i + 1) (used ||| 2 ^ k)
      have h2 := hsc i k
      omega
theorem C26 {x y : List Desc} (hx : Szs x) (hy : Szs y) (hlx : x.length ≤ 8) (hly : y.length ≤ 8) : ∀ (d i used : Nat), i + d = x.length → used < 256 → Fn Try.prog 26 [] [.ro (x.map Desc.av), .ro (y.map Desc.av), .v (.int .i64 (i : Nat)), .v (.int .i64 (used : Nat))] [.v (.int .i64 (bestN (scD x y) y.length d i used))] [] := by
  intro d
  induction d using Nat.strongRecOn with
  | _ d ih =>
  intro i used hid hu
  refine Spec.body Try.func26 rfl Try.ntmps26 (by simp) rfl ?_; intro S0 own0 v0 w0
  (refine AW.seq_k ?_; intro K hK)
  refine AW.region ?_
  refine awP (op_assign rfl rfl) ?_
  refine AWL.nil ?_
  (refine hK _ ?_; clear hK K; (try simp only [nA, Nat.reduceBEq, Nat.reduceEqDiff, ↓reduceIte, Nat.reduceAdd, Nat.reduceSub]))
  (refine AW.seq_k ?_; intro K hK)
  (refine AW.seq_k ?_; intro K hK)
  refine AW.region ?_
  refine awP (op_move rfl rfl) ?_
  refine awP (op_move rfl rfl) ?_
  (first | refine awP (op_len_ro rfl rfl Try.underlying22 (by first | exact .inr (.inl ⟨_, rfl, rfl⟩) | exact .inl rfl | exact .inr (.inr (.inl ⟨_, rfl, rfl⟩)) | exact .inr (.inr (.inr ⟨rfl, rfl⟩)))) ?_ | refine awP (op_len_sl rfl rfl rfl Try.underlying22) ?_ | refine awP (op_len_str rfl rfl Try.underlying22) ?_)
  (first | refine awP (op_eql rfl rfl rfl) ?_ | refine awP (op_seql rfl rfl rfl) ?_)
  refine AWL.nil ?_
  (refine hK _ ?_; clear hK K; (try simp only [nA, Nat.reduceBEq, Nat.reduceEqDiff, ↓reduceIte, Nat.reduceAdd, Nat.reduceSub]))
  refine AW.cond rfl rfl rfl (fun hc => ?_) (fun hc => ?_)
  ·
   (try simp only [hcS] at hc); have hc1 := hc; skip
   (refine AW.seq_k ?_; intro K hK)
   refine AW.region ?_
   refine awP (op_assign rfl rfl) ?_
   refine AWL.nil ?_
   (refine hK _ ?_; clear hK K; (try simp only [nA, Nat.reduceBEq, Nat.reduceEqDiff, ↓reduceIte, Nat.reduceAdd, Nat.reduceSub]))
   skip
   refine AW.ret ?_; (try simp only [thenE, inBlk, Nat.reduceEqDiff, ↓reduceIte]); obtain rfl : d = 0 := (by omega); exact RQ.of0 rfl (.tmp (Nat.le_of_ble_eq_true rfl) rfl rfl .nil)
  ·
   (try simp only [hcS] at hc); have hc1 := hc; obtain ⟨e, rfl⟩ : ∃ e, d = e + 1 := ⟨d - 1, by omega⟩; have hb0 := best_bd (F := y.length) (scD_bd (x := x) (y := y)) e (i + 1)
   refine AW.skip ?_
   (refine hK _ ?_; clear hK K; (try simp only [nA, Nat.reduceBEq, Nat.reduceEqDiff, ↓reduceIte, Nat.reduceAdd, Nat.reduceSub]))
   (refine AW.seq_k ?_; intro K hK)
   refine AW.region ?_
   refine awP (op_move rfl rfl) ?_
   refine awP (op_move rfl rfl) ?_
   refine awP (op_move rfl rfl) ?_
   (first | refine awP (op_addi rfl rfl rfl (by omega)) ?_ | refine awP (op_add rfl rfl rfl rfl) ?_)
   refine awP (op_move rfl rfl) ?_
   refine awJ (OpQ.j (op_callQ (b := true) rfl en26 (ih e (by omega) (i + 1) used (by omega) hu) (RL.cons (by first | exact View.same rfl | exact View.nil | exact View.rof | exact View.src .ro | exact View.src .rof | exact View.src (.sl rfl rfl) | exact View.ptr rfl rfl rfl) (RL.cons (by first | exact View.same rfl | exact View.nil | exact View.rof | exact View.src .ro | exact View.src .rof | exact View.src (.sl rfl rfl) | exact View.ptr rfl rfl rfl) (RL.cons (by first | exact View.same rfl | exact View.nil | exact View.rof | exact View.src .ro | exact View.src .rof | exact View.src (.sl rfl rfl) | exact View.ptr rfl rfl rfl) (RL.cons (by first | exact View.same rfl | exact View.nil | exact View.rof | exact View.src .ro | exact View.src .rof | exact View.src (.sl rfl rfl) | exact View.ptr rfl rfl rfl) (RL.nil))))) rfl)) ?_; (try simp only [nA, Nat.reduceBEq, Nat.reduceEqDiff, ↓reduceIte, Nat.reduceAdd, Nat.reduceSub])
   refine awP (op_assign rfl rfl) ?_
   refine AWL.nil ?_
   (refine hK _ ?_; clear hK K; (try simp only [nA, Nat.reduceBEq, Nat.reduceEqDiff, ↓reduceIte, Nat.reduceAdd, Nat.reduceSub]))
   (refine AW.seq_k ?_; intro K hK)
   (refine AW.seq_k ?_; intro K hK)
   refine AW.region ?_
   refine awP (op_assign rfl rfl) ?_
   refine AWL.nil ?_
   (refine hK _ ?_; clear hK K; (try simp only [nA, Nat.reduceBEq, Nat.reduceEqDiff, ↓reduceIte, Nat.reduceAdd, Nat.reduceSub]))
   refine AW.block ?_
   refine AW.loopI (fun (k : Nat) => [(0, .ro (x.map Desc.av)), (1, .ro (y.map Desc.av)), (2, .v (.int .i64 (i : Nat))), (3, .v (.int .i64 (used : Nat))), (9, .v (.int .i64 (bpre (scD x y) y.length e i used k))), (10, .v (.int .i64 (k : Nat)))]) (fun _ => ⟨[], 1⟩) (fun k => k ≤ y.length) (fun k => y.length - k) 0 (Nat.zero_le _) ⟨rfl, rfl, rfl, rfl, rfl, rfl, trivial⟩ rfl ?_; intro k ρ hk; simp only [updL]; (try simp only [nA, Nat.reduceBEq, Nat.reduceEqDiff, ↓reduceIte, Nat.reduceAdd, Nat.reduceSub])
   (refine AW.seq_k ?_; intro K hK)
   (refine AW.seq_k ?_; intro K hK)
   refine AW.region ?_
   refine awP (op_move rfl rfl) ?_
   refine awP (op_move rfl rfl) ?_
   (first | refine awP (op_len_ro rfl rfl Try.underlying22 (by first | exact .inr (.inl ⟨_, rfl, rfl⟩) | exact .inl rfl | exact .inr (.inr (.inl ⟨_, rfl, rfl⟩)) | exact .inr (.inr (.inr ⟨rfl, rfl⟩)))) ?_ | refine awP (op_len_sl rfl rfl rfl Try.underlying22) ?_ | refine awP (op_len_str rfl rfl Try.underlying22) ?_)
   refine awP (op_lss rfl rfl rfl) ?_
   refine AWL.nil ?_
   (refine hK _ ?_; clear hK K; (try simp only [nA, Nat.reduceBEq, Nat.reduceEqDiff, ↓reduceIte, Nat.reduceAdd, Nat.reduceSub]))
   refine AW.cond rfl rfl rfl (fun hc => ?_) (fun hc => ?_)
   ·
    (try simp only [hcS] at hc); have hc2 := hc; have hk2 : k < y.length := (by omega); have hbt : bt used k < 2 := Nat.mod_lt _ (by omega); have h2k : 2 ^ k < 256 := Nat.pow_lt_pow_right (by omega) (show k < 8 by omega); have hor : used ||| 2 ^ k < 256 := Nat.or_lt_two_pow (n := 8) hu h2k; have hsd := scD_bd (x := x) (y := y) i k; have hb1 := hb0 (used ||| 2 ^ k)
    refine AW.skip ?_
    (refine hK _ ?_; clear hK K; (try simp only [nA, Nat.reduceBEq, Nat.reduceEqDiff, ↓reduceIte, Nat.reduceAdd, Nat.reduceSub]))
    (refine AW.seq_k ?_; intro K hK)
    refine AW.block ?_
    (refine AW.seq_k ?_; intro K hK)
    (refine AW.seq_k ?_; intro K hK)
    refine AW.region ?_
    refine awP (op_move rfl rfl) ?_
    refine awP (op_move rfl rfl) ?_
    refine awP (op_shr rfl rfl rfl (by omega) rfl) ?_
    refine awP (op_and (z := ((bt used k : Nat) : Int)) rfl rfl rfl (bt_and (f := ((used : Nat) : Int)) (by omega) (by omega))) ?_
    (first | refine awP (op_eql rfl rfl rfl) ?_ | refine awP (op_seql rfl rfl rfl) ?_)
    refine AWL.nil ?_
    (refine hK _ ?_; clear hK K; (try simp only [nA, Nat.reduceBEq, Nat.reduceEqDiff, ↓reduceIte, Nat.reduceAdd, Nat.reduceSub]))
    refine AW.cond rfl rfl rfl (fun hc => ?_) (fun hc => ?_)
    ·
     (try simp only [hcS] at hc); have hc3 := hc; skip
     refine AW.exit ?_; (try simp only [thenE, inBlk, Nat.reduceEqDiff, ↓reduceIte])
     clear hK K
     (refine hK _ ?_; clear hK K; (try simp only [nA, Nat.reduceBEq, Nat.reduceEqDiff, ↓reduceIte, Nat.reduceAdd, Nat.reduceSub]))
     refine AW.region ?_
     refine awP (op_move rfl rfl) ?_
     (first | refine awP (op_addi rfl rfl rfl (by omega)) ?_ | refine awP (op_add rfl rfl rfl rfl) ?_)
     refine awP (op_assign rfl rfl) ?_
     skip
     refine AWL.nil ?_
     refine ⟨k + 1, by omega, by omega, ⟨rfl, rfl, rfl, rfl, (by rw [bpre_skip (by omega)]; rfl), rfl, trivial⟩, (by first | rfl | trivial), (by first | rfl | trivial)⟩
    ·
     (try simp only [hcS] at hc); have hc3 := hc; skip
     refine AW.skip ?_
     (refine hK _ ?_; clear hK K; (try simp only [nA, Nat.reduceBEq, Nat.reduceEqDiff, ↓reduceIte, Nat.reduceAdd, Nat.reduceSub]))
     (refine AW.seq_k ?_; intro K hK)
     refine AW.quiet mix (by kernel_rfl) ?_
     refine aqP (op_move rfl rfl) ?_
     refine aqP (op_move rfl rfl) ?_
     (first | refine aqP (op_ia_ro i rfl (.inl rfl) rfl Try.underlying22 rfl (get_mapD (by omega)) (by exact sz30) (Nat.le_of_ble_eq_true rfl)) ?_ | refine aqP (op_ia_sl _ _ rfl rfl rfl rfl Try.underlying22 rfl (by omega) (by exact sz30) rfl) ?_)
     (first | refine aqR (op_load_ptr rfl rfl rfl rfl ag30 sz30 (Nat.le_of_ble_eq_true rfl) rfl) ?_ | refine aqR (op_load_rop rfl rfl ag30 sz30 (Nat.le_of_ble_eq_true rfl) (by decide) rfl) ?_)
     refine aqP (op_move rfl rfl) ?_
     refine aqP (op_move rfl rfl) ?_
     (first | refine aqP (op_ia_ro k rfl (.inl rfl) rfl Try.underlying22 rfl (get_mapD (by omega)) (by exact sz30) (Nat.le_of_ble_eq_true rfl)) ?_ | refine aqP (op_ia_sl _ _ rfl rfl rfl rfl Try.underlying22 rfl (by omega) (by exact sz30) rfl) ?_)
     (first | refine aqR (op_load_ptr rfl rfl rfl rfl ag30 sz30 (Nat.le_of_ble_eq_true rfl) rfl) ?_ | refine aqR (op_load_rop rfl rfl ag30 sz30 (Nat.le_of_ble_eq_true rfl) (by decide) rfl) ?_)
     refine aqQ (op_callQ (b := true) rfl en19 (C19 (a := x.getD i default) (b := y.getD k default) (hx _ (getD_mem (by omega))) (hy _ (getD_mem (by omega)))) (RL.cons (by first | exact View.same rfl | exact View.nil | exact View.rof | exact View.src .ro | exact View.src .rof | exact View.src (.sl rfl rfl) | exact View.ptr rfl rfl rfl) (RL.cons (by first | exact View.same rfl | exact View.nil | exact View.rof | exact View.src .ro | exact View.src .rof | exact View.src (.sl rfl rfl) | exact View.ptr rfl rfl rfl) (RL.nil))) rfl) ?_; (try simp only [nA, Nat.reduceBEq, Nat.reduceEqDiff, ↓reduceIte, Nat.reduceAdd, Nat.reduceSub])
     refine aqP (op_assign (x := .v (.int .i64 ((scD x y) i k))) rfl rfl) ?_
     refine AQ.nil ?_
     (refine hK _ ?_; clear hK K; (try simp only [nA, Nat.reduceBEq, Nat.reduceEqDiff, ↓reduceIte, Nat.reduceAdd, Nat.reduceSub]))
     (refine AW.seq_k ?_; intro K hK)
     refine AW.region ?_
     refine awP (op_move rfl rfl) ?_
     refine awP (op_gtr rfl rfl rfl) ?_
     refine AWL.nil ?_
     (refine hK _ ?_; clear hK K; (try simp only [nA, Nat.reduceBEq, Nat.reduceEqDiff, ↓reduceIte, Nat.reduceAdd, Nat.reduceSub]))
     refine AW.cond rfl rfl rfl (fun hc => ?_) (fun hc => ?_)
     ·
      (try simp only [hcS] at hc); have hc4 := hc; skip
      refine AW.region ?_
      refine awP (op_move rfl rfl) ?_
      refine awP (op_move rfl rfl) ?_
      refine awP (op_move rfl rfl) ?_
      refine awP (op_move rfl rfl) ?_
      refine awP (op_move rfl rfl) ?_
      (first | refine awP (op_addi rfl rfl rfl (by omega)) ?_ | refine awP (op_add rfl rfl rfl rfl) ?_)
      refine awP (op_move rfl rfl) ?_
      refine awP (op_move rfl rfl) ?_
      refine awP (op_shl (z := ((2 ^ k : Nat) : Int)) rfl rfl rfl (by omega) (shl_eq (by omega))) ?_
      refine awP (op_or (z := ((used ||| 2 ^ k : Nat) : Int)) rfl rfl rfl (or_eq hu h2k)) ?_
      refine awJ (OpQ.j (op_callQ (b := true) rfl en26 (ih e (by omega) (i + 1) (used ||| 2 ^ k) (by omega) hor) (RL.cons (by first | exact View.same rfl | exact View.nil | exact View.rof | exact View.src .ro | exact View.src .rof | exact View.src (.sl rfl rfl) | exact View.ptr rfl rfl rfl) (RL.cons (by first | exact View.same rfl | exact View.nil | exact View.rof | exact View.src .ro | exact View.src .rof | exact View.src (.sl rfl rfl) | exact View.ptr rfl rfl rfl) (RL.cons (by first | exact View.same rfl | exact View.nil | exact View.rof | exact View.src .ro | exact View.src .rof | exact View.src (.sl rfl rfl) | exact View.ptr rfl rfl rfl) (RL.cons (by first | exact View.same rfl | exact View.nil | exact View.rof | exact View.src .ro | exact View.src .rof | exact View.src (.sl rfl rfl) | exact View.ptr rfl rfl rfl) (RL.nil))))) rfl)) ?_; (try simp only [nA, Nat.reduceBEq, Nat.reduceEqDiff, ↓reduceIte, Nat.reduceAdd, Nat.reduceSub])
      (first | refine awP (op_addi rfl rfl rfl (by omega)) ?_ | refine awP (op_add rfl rfl rfl rfl) ?_)
      refine awP (op_max (r := max (bpre (scD x y) y.length e i used k) ((scD x y) i k + bestN (scD x y) y.length e (i + 1) (used ||| 2 ^ k))) rfl rfl rfl (by split <;> omega)) ?_
      refine awP (op_assign rfl rfl) ?_
      refine AWL.nil ?_
      (try simp only [thenE, inBlk, Nat.reduceEqDiff, ↓reduceIte])
      (refine hK _ ?_; clear hK K; (try simp only [nA, Nat.reduceBEq, Nat.reduceEqDiff, ↓reduceIte, Nat.reduceAdd, Nat.reduceSub]))
      refine AW.region ?_
      refine awP (op_move rfl rfl) ?_
      (first | refine awP (op_addi rfl rfl rfl (by omega)) ?_ | refine awP (op_add rfl rfl rfl rfl) ?_)
      refine awP (op_assign rfl rfl) ?_
      refine AWL.nil ?_
      refine ⟨k + 1, by omega, by omega, ⟨rfl, rfl, rfl, rfl, (by rw [bpre_yes (by omega) (by omega)]; rfl), rfl, trivial⟩, (by first | rfl | trivial), (by first | rfl | trivial)⟩
     ·
      (try simp only [hcS] at hc); have hc4 := hc; skip
      refine AW.skip ?_
      (try simp only [thenE, inBlk, Nat.reduceEqDiff, ↓reduceIte])
      (refine hK _ ?_; clear hK K; (try simp only [nA, Nat.reduceBEq, Nat.reduceEqDiff, ↓reduceIte, Nat.reduceAdd, Nat.reduceSub]))
      refine AW.region ?_
      refine awP (op_move rfl rfl) ?_
      (first | refine awP (op_addi rfl rfl rfl (by omega)) ?_ | refine awP (op_add rfl rfl rfl rfl) ?_)
      refine awP (op_assign rfl rfl) ?_
      refine AWL.nil ?_
      refine ⟨k + 1, by omega, by omega, ⟨rfl, rfl, rfl, rfl, (by rw [bpre_no (by omega) (by omega)]; rfl), rfl, trivial⟩, (by first | rfl | trivial), (by first | rfl | trivial)⟩
   ·
    (try simp only [hcS] at hc); have hc2 := hc; skip
    refine AW.exit ?_; (try simp only [thenE, inBlk, Nat.reduceEqDiff, ↓reduceIte])
    clear hK K
    (refine hK _ ?_; clear hK K; (try simp only [nA, Nat.reduceBEq, Nat.reduceEqDiff, ↓reduceIte, Nat.reduceAdd, Nat.reduceSub]))
    (refine AW.seq_k ?_; intro K hK)
    refine AW.region ?_
    refine awP (op_move rfl rfl) ?_
    refine awP (op_assign rfl rfl) ?_
    refine AWL.nil ?_
    (refine hK _ ?_; clear hK K; (try simp only [nA, Nat.reduceBEq, Nat.reduceEqDiff, ↓reduceIte, Nat.reduceAdd, Nat.reduceSub]))
    skip
    refine AW.ret ?_; (try simp only [thenE, inBlk, Nat.reduceEqDiff, ↓reduceIte]); obtain rfl : k = y.length := (by omega); rw [← bpre_end]; exact RQ.of0 rfl (.tmp (Nat.le_of_ble_eq_true rfl) rfl rfl .nil)
end Go.Proofs.Ytjgbbffcjbmjmaa
