import Derived.Test.YtjgbbffcjbmjmaaFx
import Derived.Test.YtjgbbffcjbmjmaaAbN
namespace Go.Proofs.Ytjgbbffcjbmjmaa
open Go.RowKit
set_option linter.unusedSimpArgs false
set_option linter.unusedVariables false

theorem op_sadd {C : Cx} {o : Oper} {ev : Operand → AV} {T : Sl} {t yt : TypeId} {p q : Operand} {x y z : ByteArray} (ho : o.op = .binOp .add t p q yt) (hp : ev p = .v (.string x)) (hq : ev q = .v (.string y)) (hz : x ++ y = z) (hs : x.size + y.size ≤ 9223372036854775807) : OpP C o ev T (.v (.string z)) := by
  subst hz
  exact op_bin ho hp hq (eqGuard_str _ _ _ _ _ _) (fun w => by simp [binOp, Op.stringOp]; omega) rfl
/-! ### Facts about the source's descriptions -/
theorem holes_ok {l : List Int} : ∀ (f k : Nat) (b : List UInt8), b.length = 10 → b.all okc = true → (holes l f k b).1.length = 10 ∧ (holes l f k b).1.all okc = true
  | 0, k, b, h, h2 => ⟨h, h2⟩
  | f + 1, k, b, h, h2 => by
    rw [holes_s]
    refine holes_ok f _ _ (by rw [List.length_set]; exact h) ?_
    rw [List.all_eq_true] at h2 ⊢
    intro c hc
    rcases List.mem_or_eq_of_mem_set hc with h3 | h3
    · exact h2 c h3
    · subst h3; rfl
theorem pats_ok {l : List Int} {k : Nat} : (textV l k pats4).data.toList.all okc = true := by
  have h : ∀ s ∈ pats4, s.data.toList.all okc = true := by decide
  exact h _ (textV_mem (by decide))
theorem ports_ok {l : List Int} {k : Nat} : (emp (textV l k ports4) || lettersB (textV l k ports4) 3 3) = true := by
  have h : ∀ s ∈ ports4, (emp s || lettersB s 3 3) = true := by
    intro s hs
    simp only [ports4, List.mem_cons, List.not_mem_nil, or_false] at hs
    rcases hs with rfl | rfl | rfl | rfl
    · rw [emp_iff.2 rfl]; rfl
    all_goals (rw [show lettersB _ 3 3 = true by decide]; simp)
  exact h _ (textV_mem (by decide))
theorem feas_ok {l : List Int} {k : Nat} : 0 ≤ pickV l k feas8 ∧ pickV l k feas8 ≤ 255 := by
  have h : ∀ x ∈ feas8, 0 ≤ x ∧ x ≤ 255 := by decide
  exact h _ (pickV_mem (by decide))
theorem dbase_ok {l : List Int} {k : Nat} {p : ByteArray} (hp : (emp p || pat10 p) = true) : validB (dbase l k p) = true := by
  have g1 := gmod_bd (x := rawV l k) (n := 4) (by decide)
  have g2 := gmod_bd (x := rawV l (rawN l k)) (n := 4) (by decide)
  exact validB_iff.2 ⟨hp, ⟨by dsimp only; omega, by dsimp only; omega⟩, ⟨by dsimp only; omega, by dsimp only; omega⟩, feas_ok, ports_ok⟩
theorem descV_ok {l : List Int} {k : Nat} : validB (descV l k).1 = true := by
  unfold descV
  split
  · have h := holes_ok (l := l) (gmod (rawV l (it2 l (it4 l k))) 4).toNat (rawN l (it2 l (it4 l k))) (textV l (rawN l (it4 l k)) pats4).data.toList (by rw [size_len]; exact pats_size) pats_ok
    generalize holes l (gmod (rawV l (it2 l (it4 l k))) 4).toNat (rawN l (it2 l (it4 l k))) (textV l (rawN l (it4 l k)) pats4).data.toList = r at h
    refine dbase_ok ?_
    rw [Bool.or_eq_true]
    right
    unfold pat10 allok
    rw [Bool.and_eq_true]
    exact ⟨h.2, decide_eq_true (by show ((r.1.toArray.size : Nat) : Int) = 10; simp [h.1])⟩
  · exact dbase_ok (by rw [emp_iff.2 rfl]; rfl)
theorem valid_size {d : Desc} (h : validB d = true) : d.pat.size ≤ 10 := by
  have h1 := (validB_iff.1 h).pat
  rw [Bool.or_eq_true] at h1
  rcases h1 with h1 | h1
  · have := emp_iff.1 h1; omega
  · unfold pat10 at h1
    rw [Bool.and_eq_true, decide_eq_true_eq] at h1
    omega
theorem szs_of {x : List Desc} (h : ∀ d ∈ x, validB d = true) : Szs x := fun d hd => by have := valid_size (h d hd); omega
def descsF (l : List Int) : Nat → Nat → List Desc → List Desc × Nat
  | 0, k, xs => (xs, k)
  | f + 1, k, xs => descsF l f (descV l k).2 (xs ++ [(descV l k).1])
theorem descsF_0 (l : List Int) (k : Nat) (xs : List Desc) : descsF l 0 k xs = (xs, k) := rfl
theorem descsF_s (l : List Int) (f k : Nat) (xs : List Desc) : descsF l (f + 1) k xs = descsF l f (descV l k).2 (xs ++ [(descV l k).1]) := rfl
def descsV (l : List Int) (k n : Nat) : List Desc × Nat := descsF l (gmod (rawV l k) ((n : Nat) + 1)).toNat (rawN l k) []
theorem descsF_len (l : List Int) : ∀ (f k : Nat) (xs : List Desc), (descsF l f k xs).1.length = xs.length + f
  | 0, k, xs => rfl
  | f + 1, k, xs => by rw [descsF_s, descsF_len l f]; simp; omega
theorem descsF_ok (l : List Int) : ∀ (f k : Nat) (xs : List Desc), (∀ d ∈ xs, validB d = true) → ∀ d ∈ (descsF l f k xs).1, validB d = true
  | 0, k, xs, h => h
  | f + 1, k, xs, h => by
    rw [descsF_s]
    refine descsF_ok l f _ _ fun d hd => ?_
    rw [List.mem_append, List.mem_singleton] at hd
    rcases hd with hd | rfl
    · exact h d hd
    · exact descV_ok
theorem descsV_len (l : List Int) (k n : Nat) : (descsV l k n).1.length ≤ n := by
  have hg := gmod_bd (x := rawV l k) (n := (n : Int) + 1) (by omega)
  unfold descsV
  rw [descsF_len]
  simp
  omega
theorem descsV_ok (l : List Int) (k n : Nat) : ∀ d ∈ (descsV l k n).1, validB d = true := descsF_ok l _ _ _ (fun d hd => by cases hd)
theorem C12 {l : List Int} {k0 n : Nat} (hl : l.length ≤ 2000) (h2 : n ≤ 50) : Fn Try.prog 12 [.own 58 [srcRow l k0]] [.ptr 0 0 0 0, .v (.int .i64 (n : Nat))] [.ro ((descsV l k0 n).1.map Desc.av)] [.own 58 [srcRow l (descsV l k0 n).2]] := by
  have g1 := gmod_bd (x := rawV l k0) (n := (n : Nat) + 1) (by omega)
  refine Spec.body Try.func12 rfl Try.ntmps12 (by simp) rfl ?_; intro S0 own0 v0 w0
  (refine AW.seq_k ?_; intro K hK)
  refine AW.region ?_
  refine awP (op_assign rfl rfl) ?_
  refine AWL.nil ?_
  (refine hK _ ?_; clear hK K; (try simp only [nA, Nat.reduceBEq, Nat.reduceEqDiff, ↓reduceIte, Nat.reduceAdd, Nat.reduceSub]))
  (refine AW.seq_k ?_; intro K hK)
  refine AW.region ?_
  refine awP (op_assign rfl rfl) ?_
  refine AWL.nil ?_
  (refine hK _ ?_; clear hK K; (try simp only [nA, Nat.reduceBEq, Nat.reduceEqDiff, ↓reduceIte, Nat.reduceAdd, Nat.reduceSub]))
  (refine AW.seq_k ?_; intro K hK)
  (refine AW.seq_k ?_; intro K hK)
  refine AW.region ?_
  refine awP (op_move rfl rfl) ?_
  refine awP (op_move rfl rfl) ?_
  (first | refine awP (op_addi rfl rfl rfl (by omega)) ?_ | refine awP (op_add rfl rfl rfl rfl) ?_)
  refine awJ (op_call1 rfl en29 (C29 hl (n := (n : Nat) + 1) (by omega)) (by exact rfl) (RL.cons .ptr (RL.cons (.base (by first | exact View.same rfl | exact View.nil | exact View.rof | exact View.src .ro | exact View.src .rof | exact View.src (.sl rfl rfl) | exact View.ptr rfl rfl rfl)) (RL.nil))) (by exact ⟨_, _, _, rfl, rfl, rfl⟩) (by exact rfl) (by exact rfl) (by exact rfl)) ?_; (try simp only [nA, Nat.reduceBEq, Nat.reduceEqDiff, ↓reduceIte, Nat.reduceAdd, Nat.reduceSub])
  refine awP (op_assign rfl rfl) ?_
  refine AWL.nil ?_
  (refine hK _ ?_; clear hK K; (try simp only [nA, Nat.reduceBEq, Nat.reduceEqDiff, ↓reduceIte, Nat.reduceAdd, Nat.reduceSub]))
  refine AW.block ?_
  refine AW.gh (Gh.nil (e := 30) 5 (Nat.le_of_ble_eq_true rfl) rfl sz30) ?_; (try simp only [nA, Nat.reduceBEq, Nat.reduceEqDiff, ↓reduceIte, Nat.reduceAdd, Nat.reduceSub]); refine AW.loopI (fun (q : Nat × Nat × List Desc × Nat × Nat) => [(0, .ptr 0 0 0 0), (5, .sl 1 q.2.2.2.1 0 q.2.2.1.length), (6, .v (.int .i64 (q.1 : Nat)))]) (fun q => ⟨[(0, .own 58 [srcRow l q.2.1]), (q.2.2.2.1, .own 30 (q.2.2.1.map Desc.av))], q.2.2.2.2⟩) (fun q => q.2.2.1.length + q.1 ≤ 100 ∧ descsF l q.1 q.2.1 q.2.2.1 = descsV l k0 n) (fun q => q.1) ((gmod (rawV l k0) ((n : Nat) + 1)).toNat, rawN l k0, [], 1, 2) ⟨by simp; omega, rfl⟩ ⟨rfl, rfl, (by show AV.v (.int .i64 _) = AV.v (.int .i64 _); rw [Int.toNat_of_nonneg (by omega)]), trivial⟩ rfl ?_; rintro ⟨f, k, ps, v, ep⟩ ρ ⟨hI, hR⟩; simp only at hI hR; simp only [updL]; (try simp only [nA, Nat.reduceBEq, Nat.reduceEqDiff, ↓reduceIte, Nat.reduceAdd, Nat.reduceSub])
  (refine AW.seq_k ?_; intro K hK)
  (refine AW.seq_k ?_; intro K hK)
  refine AW.region ?_
  refine awP (op_move rfl rfl) ?_
  refine awP (op_gtr rfl rfl rfl) ?_
  refine AWL.nil ?_
  (refine hK _ ?_; clear hK K; (try simp only [nA, Nat.reduceBEq, Nat.reduceEqDiff, ↓reduceIte, Nat.reduceAdd, Nat.reduceSub]))
  refine AW.cond rfl rfl rfl (fun hc => ?_) (fun hc => ?_)
  ·
   (try simp only [hcS] at hc); have hc1 := hc; obtain ⟨f, rfl⟩ : ∃ g, f = g + 1 := ⟨f - 1, by omega⟩; rw [descsF_s] at hR
   refine AW.skip ?_
   (refine hK _ ?_; clear hK K; (try simp only [nA, Nat.reduceBEq, Nat.reduceEqDiff, ↓reduceIte, Nat.reduceAdd, Nat.reduceSub]))
   (refine AW.seq_k ?_; intro K hK)
   refine AW.block ?_
   refine AW.region ?_
   refine awP (op_move rfl rfl) ?_
   refine awP (op_move rfl rfl) ?_
   refine awJ (op_call1 rfl en15 (C15 hl) (by exact rfl) (RL.cons .ptr (RL.nil)) (by exact ⟨_, _, _, rfl, rfl, rfl⟩) (by exact rfl) (by exact rfl) (by exact rfl)) ?_; (try simp only [nA, Nat.reduceBEq, Nat.reduceEqDiff, ↓reduceIte, Nat.reduceAdd, Nat.reduceSub])
   refine awJ (op_buildSlice rfl [(0, Desc.av (descV l k).1)] [Desc.av (descV l k).1] Try.underlying22 ze30 rfl (by simp [Desc.av]) rfl (Desc.len [(descV l k).1]) rfl (Nat.le_of_ble_eq_true rfl) (by simp [maxLen])) ?_; (try simp only [nA, Nat.reduceBEq, Nat.reduceEqDiff, ↓reduceIte, Nat.reduceAdd, Nat.reduceSub]); skip; (try simp only [nA, Nat.reduceBEq, Nat.reduceEqDiff, ↓reduceIte, Nat.reduceAdd, Nat.reduceSub])
   refine awJ (op_app (rows := [Desc.av (descV l k).1]) rfl rfl rfl rfl (by simp) (.sl (es := [Desc.av (descV l k).1]) rfl rfl) Try.underlying22 ze30 (by decide) (Desc.len [(descV l k).1]) (by simp; omega) (by decide) (es' := (ps ++ [(descV l k).1]).map Desc.av) (by simp) (n := (ps ++ [(descV l k).1]).length) (by simp)) ?_; (try simp only [nA, Nat.reduceBEq, Nat.reduceEqDiff, ↓reduceIte, Nat.reduceAdd, Nat.reduceSub])
   refine awP (op_assign rfl rfl) ?_
   refine AWL.nil ?_
   (try simp only [thenE, inBlk, Nat.reduceEqDiff, ↓reduceIte])
   (refine hK _ ?_; clear hK K; (try simp only [nA, Nat.reduceBEq, Nat.reduceEqDiff, ↓reduceIte, Nat.reduceAdd, Nat.reduceSub]))
   refine AW.region ?_
   refine awP (op_move rfl rfl) ?_
   (first | refine awP (op_subi rfl rfl rfl (by omega)) ?_ | refine awP (op_sub rfl rfl rfl rfl) ?_)
   refine awP (op_assign rfl rfl) ?_
   refine AWL.gh (Gh.drop 2) ?_; (try simp only [nA, Nat.reduceBEq, Nat.reduceEqDiff, ↓reduceIte, Nat.reduceAdd, Nat.reduceSub])
   refine AWL.nil ?_
   refine ⟨(f, (descV l k).2, ps ++ [(descV l k).1], _, _), ⟨by simp; omega, hR⟩, by dsimp only; omega, ⟨rfl, rfl, (by show AV.v (Value.int .i64 (((f + 1 : Nat) : Int) - 1)) = AV.v (Value.int .i64 (f : Nat)); congr 2; omega), trivial⟩, (by first | rfl | trivial), (by first | rfl | trivial)⟩
  ·
   (try simp only [hcS] at hc); have hc1 := hc; obtain rfl : f = 0 := (by omega); rw [descsF_0] at hR
   refine AW.exit ?_; (try simp only [thenE, inBlk, Nat.reduceEqDiff, ↓reduceIte])
   clear hK K
   (refine hK _ ?_; clear hK K; (try simp only [nA, Nat.reduceBEq, Nat.reduceEqDiff, ↓reduceIte, Nat.reduceAdd, Nat.reduceSub]))
   (refine AW.seq_k ?_; intro K hK)
   refine AW.region ?_
   refine awP (op_move rfl rfl) ?_
   refine awP (op_assign rfl rfl) ?_
   refine AWL.nil ?_
   (refine hK _ ?_; clear hK K; (try simp only [nA, Nat.reduceBEq, Nat.reduceEqDiff, ↓reduceIte, Nat.reduceAdd, Nat.reduceSub]))
   refine AW.gh (Gh.freeze 4 (Nat.le_of_ble_eq_true rfl) rfl rfl (Desc.flat ps) (es' := ps.map Desc.av) (by rw [List.take_of_length_le (by simp)])) ?_; (try simp only [nA, Nat.reduceBEq, Nat.reduceEqDiff, ↓reduceIte, Nat.reduceAdd, Nat.reduceSub])
   refine AW.ret ?_; (try simp only [thenE, inBlk, Nat.reduceEqDiff, ↓reduceIte]); rw [← hR]; exact RQ.of (.inl rfl) rfl (.tmp (Nat.le_of_ble_eq_true rfl) rfl rfl .nil) (by simp) rfl (one_out rfl)
theorem C13 {xs : List Desc} {n : Nat} (hn : n ≤ 1000) : Fn Try.prog 13 [] [.ro (xs.map Desc.av), .v (.int .i64 (n : Nat))] [.ro ((xs.take n).map Desc.av)] [] := by
  refine Spec.body Try.func13 rfl Try.ntmps13 (by simp) rfl ?_; intro S0 own0 v0 w0
  (refine AW.seq_k ?_; intro K hK)
  refine AW.region ?_
  refine awP (op_assign rfl rfl) ?_
  refine AWL.nil ?_
  (refine hK _ ?_; clear hK K; (try simp only [nA, Nat.reduceBEq, Nat.reduceEqDiff, ↓reduceIte, Nat.reduceAdd, Nat.reduceSub]))
  (refine AW.seq_k ?_; intro K hK)
  refine AW.region ?_
  refine awP (op_move rfl rfl) ?_
  refine awP (op_move rfl rfl) ?_
  (first | refine awP (op_len_ro rfl rfl Try.underlying22 (by first | exact .inr (.inl ⟨_, rfl, rfl⟩) | exact .inl rfl | exact .inr (.inr (.inl ⟨_, rfl, rfl⟩)) | exact .inr (.inr (.inr ⟨rfl, rfl⟩)))) ?_ | refine awP (op_len_sl rfl rfl rfl Try.underlying22) ?_ | refine awP (op_len_str rfl rfl Try.underlying22) ?_)
  refine awP (op_move rfl rfl) ?_
  refine awP (op_min (r := ((min xs.length n : Nat) : Int)) rfl rfl rfl (by rw [List.length_map]; split <;> omega)) ?_
  refine awP (op_slice_ro 0 (min xs.length n) rfl (.inl rfl) (by exact rfl) (by exact ⟨_, rfl⟩) (by omega) (by rw [List.length_map]; omega) Try.underlying22 sz30 (Desc.len xs) (es' := (xs.take n).map Desc.av) (by rw [List.drop_zero, Nat.sub_zero, List.map_take]; exact List.take_eq_take_iff.2 (by rw [List.length_map]; omega))) ?_; (try simp only [nA, Nat.reduceBEq, Nat.reduceEqDiff, ↓reduceIte, Nat.reduceAdd, Nat.reduceSub])
  refine awP (op_assign rfl rfl) ?_
  refine AWL.nil ?_
  (refine hK _ ?_; clear hK K; (try simp only [nA, Nat.reduceBEq, Nat.reduceEqDiff, ↓reduceIte, Nat.reduceAdd, Nat.reduceSub]))
  skip
  refine AW.ret ?_; (try simp only [thenE, inBlk, Nat.reduceEqDiff, ↓reduceIte]); exact RQ.of0 rfl (.tmp (Nat.le_of_ble_eq_true rfl) rfl rfl .nil)
def shD (d : Desc) : Bool := decide ((d.pat.size : Int) ≤ 100) && decide ((d.port.size : Int) ≤ 100)
def shortB (l : List Desc) : Bool := l.all shD && decide ((l.length : Int) ≤ 20)
theorem shD_iff {d : Desc} : shD d = true ↔ (d.pat.size : Int) ≤ 100 ∧ (d.port.size : Int) ≤ 100 := by unfold shD; simp
theorem short_bd {x : List Desc} (h : shortB x = true) : Szs x ∧ x.length ≤ 20 ∧ ∀ d ∈ x, d.pat.size ≤ 100 := by
  unfold shortB at h
  rw [Bool.and_eq_true, List.all_eq_true, decide_eq_true_eq] at h
  have h2 : ∀ d ∈ x, d.pat.size ≤ 100 := fun d hd => by have := shD_iff.1 (h.1 d hd); omega
  exact ⟨fun d hd => by have := h2 d hd; omega, by omega, h2⟩
theorem all_take3 {α : Type} {p : α → Bool} {xs : List α} {j : Nat} {d : α} (h : xs[j]? = some d) (h1 : (xs.take j).all p = true) (h2 : p d = true) : (xs.take (j + 1)).all p = true := by
  rw [List.take_add_one, h]; simp [h1, h2]
theorem all_not3 {α : Type} {p : α → Bool} {xs : List α} {j : Nat} {d : α} (h : xs[j]? = some d) (h2 : p d = false) : xs.all p = false := by
  rw [List.all_eq_false]; exact ⟨d, List.mem_of_getElem? h, by rw [h2]; simp⟩
theorem C10 {xs : List Desc} : Fn Try.prog 10 [] [.ro (xs.map Desc.av)] [.v (.bool (shortB xs))] [] := by
  refine Spec.small 0 rfl fun hx => ?_
  rw [List.length_map] at hx
  refine Spec.body Try.func10 rfl Try.ntmps10 (by simp) rfl ?_; intro S0 own0 v0 w0
  (refine AW.seq_k ?_; intro K hK)
  refine AW.region ?_
  refine awP (op_assign rfl rfl) ?_
  refine AWL.nil ?_
  (refine hK _ ?_; clear hK K; (try simp only [nA, Nat.reduceBEq, Nat.reduceEqDiff, ↓reduceIte, Nat.reduceAdd, Nat.reduceSub]))
  (refine AW.seq_k ?_; intro K hK)
  (refine AW.seq_k ?_; intro K hK)
  refine AW.region ?_
  refine awP (op_move rfl rfl) ?_
  (first | refine awP (op_len_ro rfl rfl Try.underlying22 (by first | exact .inr (.inl ⟨_, rfl, rfl⟩) | exact .inl rfl | exact .inr (.inr (.inl ⟨_, rfl, rfl⟩)) | exact .inr (.inr (.inr ⟨rfl, rfl⟩)))) ?_ | refine awP (op_len_sl rfl rfl rfl Try.underlying22) ?_ | refine awP (op_len_str rfl rfl Try.underlying22) ?_)
  refine awP (op_move rfl rfl) ?_
  refine AWL.nil ?_
  (refine hK _ ?_; clear hK K; (try simp only [nA, Nat.reduceBEq, Nat.reduceEqDiff, ↓reduceIte, Nat.reduceAdd, Nat.reduceSub]))
  refine AW.block ?_
  refine AW.loopI (fun (i : Nat) => [(0, .ro (xs.map Desc.av)), (5, .v (.int .i64 (xs.length : Nat))), (6, .v (.int .i64 (i : Nat)))]) (fun _ => ⟨[], 1⟩) (fun i => i ≤ xs.length ∧ (xs.take i).all shD = true) (fun i => xs.length - i) 0 ⟨by simp, by simp⟩ ⟨rfl, rfl, rfl, trivial⟩ rfl ?_; intro i ρ hI; simp only [updL]; (try simp only [nA, Nat.reduceBEq, Nat.reduceEqDiff, ↓reduceIte, Nat.reduceAdd, Nat.reduceSub])
  (refine AW.seq_k ?_; intro K hK)
  refine AW.region ?_
  refine awP (op_lss rfl rfl rfl) ?_
  refine AWL.nil ?_
  (refine hK _ ?_; clear hK K; (try simp only [nA, Nat.reduceBEq, Nat.reduceEqDiff, ↓reduceIte, Nat.reduceAdd, Nat.reduceSub]))
  (refine AW.seq_k ?_; intro K hK)
  refine AW.cond rfl rfl rfl (fun hc => ?_) (fun hc => ?_)
  ·
   (try simp only [hcS] at hc); have hc1 := hc; have hlt : i < xs.length := (by simpa using hc1); obtain ⟨q, hqi⟩ : ∃ q, xs[i]? = some q := ⟨xs[i], List.getElem?_eq_getElem hlt⟩
   refine AW.skip ?_
   (refine hK _ ?_; clear hK K; (try simp only [nA, Nat.reduceBEq, Nat.reduceEqDiff, ↓reduceIte, Nat.reduceAdd, Nat.reduceSub]))
   (refine AW.seq_k ?_; intro K hK)
   refine AW.block ?_
   (refine AW.seq_k ?_; intro K hK)
   refine AW.region ?_
   refine awP (op_move rfl rfl) ?_
   refine awP (op_assign rfl rfl) ?_
   refine AWL.nil ?_
   (refine hK _ ?_; clear hK K; (try simp only [nA, Nat.reduceBEq, Nat.reduceEqDiff, ↓reduceIte, Nat.reduceAdd, Nat.reduceSub]))
   (refine AW.seq_k ?_; intro K hK)
   refine AW.region (AWL.quiet ?_)
   refine aqP (op_move rfl rfl) ?_
   refine aqP (op_move rfl rfl) ?_
   (first | refine aqP (op_ia_ro i rfl (.inl rfl) rfl Try.underlying22 rfl (get_of hqi) (by exact sz30) (Nat.le_of_ble_eq_true rfl)) ?_ | refine aqP (op_ia_sl _ _ rfl rfl rfl rfl Try.underlying22 rfl (by omega) (by exact sz30) rfl) ?_)
   (first | refine aqP (op_fa_ptr rfl rfl rfl fl30_0 (by exact sz9) (by decide) rfl) ?_ | refine aqP (op_fa_rop rfl rfl fl30_0 (by exact sz9) (by decide) (Nat.le_of_ble_eq_true rfl) rfl) ?_)
   (first | refine aqR (op_load_ptr1 rfl rfl rfl rfl ag9 rfl rfl) ?_ | refine aqR (op_load_rop1 rfl rfl ag9) ?_)
   (first | refine aqP (op_len_ro rfl rfl Try.underlying9 (by first | exact .inr (.inl ⟨_, rfl, rfl⟩) | exact .inl rfl | exact .inr (.inr (.inl ⟨_, rfl, rfl⟩)) | exact .inr (.inr (.inr ⟨rfl, rfl⟩)))) ?_ | refine aqP (op_len_sl rfl rfl rfl Try.underlying9) ?_ | refine aqP (op_len_str rfl rfl Try.underlying9) ?_)
   refine aqP (op_gtr rfl rfl rfl) ?_
   refine aqP (op_move rfl rfl) ?_
   refine' aqOr' [_, _, _, _, _, _, _] [17,18,19,20,21,22,23] rfl rfl rfl rfl rfl rfl rfl rfl rfl rfl rfl rfl (fun hb => ?_) ?_; rotate_left
   ·
    (try simp only [hcS] at hb)
    refine aqP (op_move rfl rfl) ?_
    refine aqP (op_move rfl rfl) ?_
    (first | refine aqP (op_ia_ro i rfl (.inl rfl) rfl Try.underlying22 rfl (get_of hqi) (by exact sz30) (Nat.le_of_ble_eq_true rfl)) ?_ | refine aqP (op_ia_sl _ _ rfl rfl rfl rfl Try.underlying22 rfl (by omega) (by exact sz30) rfl) ?_)
    (first | refine aqP (op_fa_ptr rfl rfl rfl fl30_4 (by exact sz9) (by decide) rfl) ?_ | refine aqP (op_fa_rop rfl rfl fl30_4 (by exact sz9) (by decide) (Nat.le_of_ble_eq_true rfl) rfl) ?_)
    (first | refine aqR (op_load_ptr1 rfl rfl rfl rfl ag9 rfl rfl) ?_ | refine aqR (op_load_rop1 rfl rfl ag9) ?_)
    (first | refine aqP (op_len_ro rfl rfl Try.underlying9 (by first | exact .inr (.inl ⟨_, rfl, rfl⟩) | exact .inl rfl | exact .inr (.inr (.inl ⟨_, rfl, rfl⟩)) | exact .inr (.inr (.inr ⟨rfl, rfl⟩)))) ?_ | refine aqP (op_len_sl rfl rfl rfl Try.underlying9) ?_ | refine aqP (op_len_str rfl rfl Try.underlying9) ?_)
    refine aqP (op_gtr rfl rfl rfl) ?_
    (refine aqSeg rfl rfl rfl ?_; repeat (first | exact fun _ _ => rfl | refine upd_out rfl ?_ | refine era_out rfl ?_))
   (try simp only [nA, Nat.reduceBEq, Nat.reduceEqDiff, ↓reduceIte, Nat.reduceAdd, Nat.reduceSub])
   refine AQ.nil ?_
   (refine hK _ ?_; clear hK K; (try simp only [nA, Nat.reduceBEq, Nat.reduceEqDiff, ↓reduceIte, Nat.reduceAdd, Nat.reduceSub]))
   refine AW.cond rfl rfl rfl (fun hc => ?_) (fun hc => ?_)
   ·
    (try simp only [hcS] at hc); have hc2 := hc; skip
    (refine AW.seq_k ?_; intro K hK)
    refine AW.region ?_
    refine awP (op_assign rfl rfl) ?_
    refine AWL.nil ?_
    (refine hK _ ?_; clear hK K; (try simp only [nA, Nat.reduceBEq, Nat.reduceEqDiff, ↓reduceIte, Nat.reduceAdd, Nat.reduceSub]))
    skip
    refine AW.ret ?_; (try simp only [thenE, inBlk, Nat.reduceEqDiff, ↓reduceIte]); rw [show shortB xs = false by unfold shortB; rw [all_not3 hqi (bfalse shD_iff (by omega))]; rfl]; exact RQ.of0 rfl (.tmp (Nat.le_of_ble_eq_true rfl) rfl rfl .nil)
   ·
    (try simp only [hcS] at hc); have hc2 := hc; skip
    refine AW.skip ?_
    (try simp only [thenE, inBlk, Nat.reduceEqDiff, ↓reduceIte])
    (refine hK _ ?_; clear hK K; (try simp only [nA, Nat.reduceBEq, Nat.reduceEqDiff, ↓reduceIte, Nat.reduceAdd, Nat.reduceSub]))
    refine AW.region ?_
    (first | refine awP (op_addi rfl rfl rfl (by omega)) ?_ | refine awP (op_add rfl rfl rfl rfl) ?_)
    refine awP (op_move rfl rfl) ?_
    skip
    refine AWL.nil ?_
    refine ⟨i + 1, ⟨by omega, all_take3 hqi hI.2 (shD_iff.2 (by omega))⟩, by omega, ⟨rfl, rfl, rfl, trivial⟩, (by first | rfl | trivial), (by first | rfl | trivial)⟩
  ·
   (try simp only [hcS] at hc); have hc1 := hc; skip
   refine AW.exit ?_; (try simp only [thenE, inBlk, Nat.reduceEqDiff, ↓reduceIte])
   clear hK K
   (refine hK _ ?_; clear hK K; (try simp only [nA, Nat.reduceBEq, Nat.reduceEqDiff, ↓reduceIte, Nat.reduceAdd, Nat.reduceSub]))
   (refine AW.seq_k ?_; intro K hK)
   refine AW.region ?_
   refine awP (op_move rfl rfl) ?_
   (first | refine awP (op_len_ro rfl rfl Try.underlying22 (by first | exact .inr (.inl ⟨_, rfl, rfl⟩) | exact .inl rfl | exact .inr (.inr (.inl ⟨_, rfl, rfl⟩)) | exact .inr (.inr (.inr ⟨rfl, rfl⟩)))) ?_ | refine awP (op_len_sl rfl rfl rfl Try.underlying22) ?_ | refine awP (op_len_str rfl rfl Try.underlying22) ?_)
   refine awP (op_leq rfl rfl rfl) ?_
   refine awP (op_assign rfl rfl) ?_
   refine AWL.nil ?_
   (refine hK _ ?_; clear hK K; (try simp only [nA, Nat.reduceBEq, Nat.reduceEqDiff, ↓reduceIte, Nat.reduceAdd, Nat.reduceSub]))
   skip
   refine AW.ret ?_; (try simp only [thenE, inBlk, Nat.reduceEqDiff, ↓reduceIte]); rw [show shortB xs = decide ((xs.length : Int) ≤ 20) by unfold shortB; have := hI.2; rw [List.take_of_length_le (by simp at hc1; omega)] at this; rw [this]; rfl]; exact RQ.of0 rfl (.tmp (Nat.le_of_ble_eq_true rfl) rfl rfl .nil)
end Go.Proofs.Ytjgbbffcjbmjmaa
