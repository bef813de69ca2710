import Derived.Test.YtbbedhidiffdgaaCy
import Derived.Test.YtbbedhidiffdgaaAbM
namespace Go.Proofs.Ytbbedhidiffdgaa
open Go.RowKit
set_option linter.unusedSimpArgs false
set_option linter.unusedVariables false

/-! ### The fewest carts -/
def wsum (f : Cart → Nat) (xs : List Cart) : Nat := (xs.map f).sum
theorem wsum_cons (f : Cart → Nat) (c : Cart) (xs : List Cart) : wsum f (c :: xs) = f c + wsum f xs := by simp [wsum]
theorem wsum_append (f : Cart → Nat) (xs ys : List Cart) : wsum f (xs ++ ys) = wsum f xs + wsum f ys := by simp [wsum]
theorem wsum_set {f : Cart → Nat} {c c' : Cart} : ∀ {xs : List Cart} {i : Nat}, xs[i]? = some c → wsum f (xs.set i c') + f c = wsum f xs + f c'
  | [], i, h => by simp at h
  | d :: xs, 0, h => by
    simp at h; subst h
    rw [List.set_cons_zero, wsum_cons, wsum_cons]; omega
  | d :: xs, i + 1, h => by
    have := wsum_set (f := f) (c' := c') (xs := xs) (i := i) (by simpa using h)
    rw [List.set_cons_succ, wsum_cons, wsum_cons]; omega
theorem wsum_le {f g : Cart → Nat} : ∀ {xs : List Cart}, (∀ c ∈ xs, f c ≤ g c) → wsum f xs ≤ wsum g xs
  | [], _ => Nat.le_refl _
  | c :: xs, h => by
    have := wsum_le (xs := xs) fun d hd => h d (by simp [hd])
    have := h c (by simp)
    rw [wsum_cons, wsum_cons]; omega
theorem wsum_lt {f g : Cart → Nat} {c : Cart} : ∀ {xs : List Cart}, (∀ c ∈ xs, f c ≤ g c) → c ∈ xs → f c < g c → wsum f xs < wsum g xs
  | d :: xs, h, hc, hl => by
    have h1 := h d (by simp)
    rw [wsum_cons, wsum_cons]
    rcases List.mem_cons.1 hc with rfl | hc
    · have := wsum_le (xs := xs) fun d hd => h d (by simp [hd])
      omega
    · have := wsum_lt (xs := xs) (fun d hd => h d (by simp [hd])) hc hl
      omega
theorem wsum_eq {f g : Cart → Nat} {xs : List Cart} (h : ∀ c ∈ xs, f c = g c) : wsum f xs = wsum g xs :=
  Nat.le_antisymm (wsum_le fun c hc => Nat.le_of_eq (h c hc)) (wsum_le fun c hc => Nat.le_of_eq (h c hc).symm)
theorem wsum_mul (n : Nat) (f : Cart → Nat) : ∀ xs : List Cart, wsum (fun c => n * f c) xs = n * wsum f xs
  | [] => by simp [wsum]
  | c :: xs => by rw [wsum_cons, wsum_cons, wsum_mul n f xs, Nat.mul_add]
def inK (k : Nat) (c : Cart) : Bool := (decide (c.chute = (k : Int) / 4) && flEq c.flight (flightN ((k : Int) / 2 % 2))) && decide (c.category = (k : Int) % 2)
def indK (k : Nat) (c : Cart) : Nat := if inK k c = true then 1 else 0
def lenK (k : Nat) (c : Cart) : Nat := if inK k c = true then c.plates.length else 0
def bagN (bs : List Nat) (k : Nat) : Nat := bs.getD k 0
theorem flightN_inj {x y : Int} (h : flEq (flightN x) (flightN y) = true) : x = y := by
  have := flEq_iff.1 h
  injection this with _ _ _ h4
  omega
abbrev keyN (ch f cat : Int) : Nat := (4 * ch + 2 * f + cat).toNat
theorem key_of {ch f cat : Int} (h1 : 0 ≤ ch ∧ ch < 2) (h2 : 0 ≤ f ∧ f < 2) (h3 : 0 ≤ cat ∧ cat < 2) : ((keyN ch f cat : Nat) : Int) / 4 = ch ∧ ((keyN ch f cat : Nat) : Int) / 2 % 2 = f ∧ ((keyN ch f cat : Nat) : Int) % 2 = cat ∧ keyN ch f cat < 8 ∧ ((keyN ch f cat : Nat) : Int) = 4 * ch + 2 * f + cat := by
  unfold keyN; omega
theorem inK_iff {k : Nat} {c : Cart} : inK k c = true ↔ c.chute = (k : Int) / 4 ∧ c.flight = flightN ((k : Int) / 2 % 2) ∧ c.category = (k : Int) % 2 := by
  unfold inK
  simp only [Bool.and_eq_true, decide_eq_true_eq, flEq_iff]
  exact ⟨fun ⟨⟨a, b⟩, c⟩ => ⟨a, b, c⟩, fun ⟨a, b, c⟩ => ⟨⟨a, b⟩, c⟩⟩
theorem inK_one {k k' : Nat} {c : Cart} (hk : k < 8) (hk' : k' < 8) (h : inK k c = true) (h' : inK k' c = true) : k = k' := by
  rw [inK_iff] at h h'
  have := flightN_inj (x := (k : Int) / 2 % 2) (y := (k' : Int) / 2 % 2) (flEq_iff.2 (h.2.1.symm.trans h'.2.1))
  omega
theorem lastN_app (xs : List Cart) (c : Cart) : lastN (xs ++ [c]) = c.number := by
  unfold lastN
  rw [if_neg (by simp), List.length_append, List.length_singleton, Nat.add_sub_cancel, get_d (c := c) (by simp)]
/-- What holds while bags are only put. -/
structure Few (xs : List Cart) (bs : List Nat) (n : Nat) : Prop where
  inv : Inv xs
  last : lastN xs = (xs.length : Int)
  pl : ∀ c ∈ xs, ∀ q ∈ c.plates, ∃ j : Nat, j < n ∧ q = platesP (j : Nat)
  here : ∀ c ∈ xs, c.away = false ∧ ∃ k, k < 8 ∧ inK k c = true
  len : bs.length = 8
  num : ∀ k, k < 8 → wsum (indK k) xs = (bagN bs k + 7) / 8
  sum : ∀ k, k < 8 → wsum (lenK k) xs = bagN bs k
  all : bs.sum = n
theorem few_nil : Few [] (List.replicate 8 0) 0 := ⟨inv_nil, rfl, by simp, by simp, rfl, fun k hk => by
  have : bagN (List.replicate 8 0) k = 0 := by unfold bagN; rcases k with _ | _ | _ | _ | _ | _ | _ | _ | k <;> first | rfl | omega
  rw [this]; rfl, fun k hk => by
  have : bagN (List.replicate 8 0) k = 0 := by unfold bagN; rcases k with _ | _ | _ | _ | _ | _ | _ | _ | k <;> first | rfl | omega
  rw [this]; rfl, rfl⟩
theorem list8 {bs : List Nat} (h : bs.length = 8) : bs.sum = bagN bs 0 + bagN bs 1 + bagN bs 2 + bagN bs 3 + bagN bs 4 + bagN bs 5 + bagN bs 6 + bagN bs 7 := by
  match bs, h with
  | [a, b, c, d, e, f, g, i], _ => simp [bagN, List.sum_cons]; omega
theorem Few.count {xs : List Cart} {bs : List Nat} {n : Nat} (h : Few xs bs n) : xs.length ≤ (n + 56) / 8 := by
  have h1 : ∀ ys : List Cart, (∀ c ∈ ys, ∃ k, k < 8 ∧ inK k c = true) → ys.length ≤ wsum (indK 0) ys + wsum (indK 1) ys + wsum (indK 2) ys + wsum (indK 3) ys + wsum (indK 4) ys + wsum (indK 5) ys + wsum (indK 6) ys + wsum (indK 7) ys := fun ys => by
    induction ys with
    | nil => intro _; simp
    | cons c ys ih =>
      intro hy
      have := ih fun d hd => hy d (by simp [hd])
      obtain ⟨k, hk, hc⟩ := hy c (by simp)
      have hi : indK k c = 1 := by unfold indK; rw [if_pos hc]
      simp only [wsum_cons, List.length_cons]
      rcases k with _ | _ | _ | _ | _ | _ | _ | _ | k <;> (try simp only [Nat.zero_add, Nat.reduceAdd] at hi) <;> omega
  have h2 := h1 xs fun c hc => (h.here c hc).2
  have h3 := list8 h.len
  rw [h.all] at h3
  rw [h.num 0 (by omega), h.num 1 (by omega), h.num 2 (by omega), h.num 3 (by omega), h.num 4 (by omega), h.num 5 (by omega), h.num 6 (by omega), h.num 7 (by omega)] at h2
  omega
theorem bagN_set {bs : List Nat} {k j v : Nat} (hk : k < bs.length) : bagN (bs.set k v) j = if k = j then v else bagN bs j := by
  unfold bagN
  rw [List.getD_eq_getElem?_getD, List.getD_eq_getElem?_getD]
  by_cases h : k = j
  · subst h; rw [List.getElem?_set_self hk, if_pos rfl]; rfl
  · rw [List.getElem?_set_ne h, if_neg h]
theorem sum_set : ∀ {bs : List Nat} {k : Nat}, k < bs.length → (bs.set k (bagN bs k + 1)).sum = bs.sum + 1
  | b :: bs, 0, _ => by simp [bagN]; omega
  | b :: bs, k + 1, h => by
    have := sum_set (bs := bs) (k := k) (by simpa using h)
    have e : bagN (b :: bs) (k + 1) = bagN bs k := by simp [bagN]
    rw [e, List.set_cons_succ, List.sum_cons, List.sum_cons, this]; omega
theorem Few.put {xs : List Cart} {bs : List Nat} {n : Nat} {ch x cat : Int} (h : Few xs bs n) (hn : n < 60) (h1 : 0 ≤ ch ∧ ch < 2) (h2 : 0 ≤ x ∧ x < 2) (h3 : 0 ≤ cat ∧ cat < 2) :
    (putV xs ch (flightN x) cat (platesP (n : Nat))).2.2 = 0 ∧ Few (putV xs ch (flightN x) cat (platesP (n : Nat))).1 (bs.set (keyN ch x cat) (bagN bs (keyN ch x cat) + 1)) (n + 1) := by
  have hno : ∀ c ∈ xs, platesP (n : Nat) ∉ c.plates := fun c hc hp => by
    obtain ⟨j, hj, e⟩ := h.pl c hc _ hp
    have := plates_ne (i := (n : Nat)) (j := (j : Nat)) (by omega) (by omega) e
    omega
  have hcnt := h.count
  have hok : (putV xs ch (flightN x) cat (platesP (n : Nat))).2.2 = 0 := by
    rcases put_good h.inv h.last (place_ok (ch := ch) (x := x) (cat := cat) (by omega) (by omega) (by omega)) (plates_ok (i := (n : Nat)) (by omega)) hno with h0 | h0
    · exact h0
    · omega
  refine ⟨hok, ?_⟩
  have hI := put_inv hok
  obtain ⟨k1, k2, k3, k8, -⟩ := key_of h1 h2 h3
  generalize hk0 : keyN ch x cat = k0 at k1 k2 k3 k8 ⊢
  have hlen := h.len
  have hb := fun j v => bagN_set (bs := bs) (k := k0) (j := j) (v := v) (by omega)
  have hplB : ∀ c ∈ xs, c.plates.length ≤ 8 := fun c hc => (valid_inv (h.inv.val c hc)).2.1
  have hle : ∀ c ∈ xs, lenK k0 c ≤ 8 * indK k0 c := fun c hc => by
    unfold lenK indK
    have := hplB c hc
    split <;> omega
  have hn0 := h.num k0 k8
  have hs0 := h.sum k0 k8
  obtain ⟨-, -, -, -, hh⟩ := putV_cases hok
  have hsum : (bs.set k0 (bagN bs k0 + 1)).sum = n + 1 := by rw [sum_set (by omega), h.all]
  rcases hh with ⟨i, c, hi, -, hr, e⟩ | ⟨hroom, -, -, e⟩
  · rw [e] at hI ⊢
    dsimp only at hI ⊢
    obtain ⟨ra, r1, r2, r3, r4⟩ := room_inv hr
    have hcm := mem_i hi
    have hck : inK k0 c = true := inK_iff.2 ⟨by rw [r1, k1], by rw [flEq_iff.1 r2, k2], by rw [r3, k3]⟩
    have hlt := wsum_lt (f := lenK k0) (g := fun c => 8 * indK k0 c) hle hcm (by unfold lenK indK; rw [if_pos hck, if_pos hck]; omega)
    rw [wsum_mul] at hlt
    refine ⟨hI, ?_, fun d hd q hq => ?_, fun d hd => ?_, by simp [hlen], fun k hk => ?_, fun k hk => ?_, hsum⟩
    · rw [List.length_set, ← h.last]
      unfold lastN
      rw [List.length_set]
      split
      · rfl
      · rename_i hl
        by_cases hil : i = xs.length - 1
        · subst hil
          rw [get_d (List.getElem?_set_self (by omega)), get_d hi]
        · rw [List.getD_eq_getElem?_getD, List.getElem?_set_ne hil, ← List.getD_eq_getElem?_getD]
    · rcases List.mem_or_eq_of_mem_set hd with hd | rfl
      · obtain ⟨j, hj, e⟩ := h.pl d hd q hq; exact ⟨j, by omega, e⟩
      · rcases List.mem_append.1 hq with hq | hq
        · obtain ⟨j, hj, e⟩ := h.pl c hcm q hq; exact ⟨j, by omega, e⟩
        · exact ⟨n, by omega, List.mem_singleton.1 hq⟩
    · rcases List.mem_or_eq_of_mem_set hd with hd | rfl
      · exact h.here d hd
      · exact h.here c hcm
    · have hw := wsum_set (f := indK k) (c' := addP c (platesP (n : Nat))) hi
      have e1 : indK k (addP c (platesP (n : Nat))) = indK k c := rfl
      rw [hb]
      have := h.num k hk
      split
      · rename_i hkk; subst hkk; omega
      · omega
    · have hw := wsum_set (f := lenK k) (c' := addP c (platesP (n : Nat))) hi
      have := h.sum k hk
      rw [hb]
      split
      · rename_i hkk; subst hkk
        have e1 : lenK k0 (addP c (platesP (n : Nat))) = lenK k0 c + 1 := by
          unfold lenK; rw [if_pos hck, show inK k0 (addP c (platesP (n : Nat))) = inK k0 c from rfl, if_pos hck]; simp
        omega
      · rename_i hkk
        have hnk : ¬ inK k c = true := fun hc => hkk (inK_one k8 hk hck hc)
        have e1 : lenK k (addP c (platesP (n : Nat))) = lenK k c := by
          unfold lenK; rw [show inK k (addP c (platesP (n : Nat))) = inK k c from rfl, if_neg hnk, if_neg hnk]
        omega
  · rw [e] at hI ⊢
    dsimp only at hI ⊢
    have hfull : ∀ c ∈ xs, lenK k0 c = 8 * indK k0 c := fun c hc => by
      unfold lenK indK
      by_cases hck : inK k0 c = true
      · rw [if_pos hck, if_pos hck]
        have h8 := hplB c hc
        obtain ⟨a1, a2, a3⟩ := inK_iff.1 hck
        have hnr : roomB c ch (flightN x) cat = false := by
          obtain ⟨m, hm, rfl⟩ := List.getElem_of_mem hc
          have := List.not_of_lt_findIdx (p := fun c => roomB c ch (flightN x) cat) (xs := xs) (i := m) (by unfold roomN at hroom; omega)
          simpa using this
        rcases Nat.lt_or_ge c.plates.length 8 with h9 | h9
        · have : roomB c ch (flightN x) cat = true := room_iff.2 ⟨⟨⟨⟨by rw [a1, k1], flEq_iff.2 (by rw [a2, k2])⟩, by rw [a3, k3]⟩, (h.here c hc).1⟩, by omega⟩
          rw [this] at hnr; cases hnr
        · omega
      · rw [if_neg hck, if_neg hck]
    have hsf := wsum_eq hfull
    rw [wsum_mul] at hsf
    have hnk : inK k0 (newC (lastN xs + 1) ch (flightN x) cat (platesP (n : Nat))) = true := inK_iff.2 ⟨k1.symm, by rw [k2], k3.symm⟩
    refine ⟨hI, ?_, fun d hd q hq => ?_, fun d hd => ?_, by simp [hlen], fun k hk => ?_, fun k hk => ?_, hsum⟩
    · have hl := h.last
      rw [lastN_app, List.length_append]
      show lastN xs + 1 = _
      rw [hl]; simp
    · rcases List.mem_append.1 hd with hd | hd
      · obtain ⟨j, hj, e⟩ := h.pl d hd q hq; exact ⟨j, by omega, e⟩
      · rw [List.mem_singleton.1 hd] at hq
        exact ⟨n, by omega, List.mem_singleton.1 hq⟩
    · rcases List.mem_append.1 hd with hd | hd
      · exact h.here d hd
      · rw [List.mem_singleton.1 hd]; exact ⟨rfl, k0, k8, hnk⟩
    · have := h.num k hk
      rw [wsum_append, hb]
      split
      · rename_i hkk; subst hkk
        have e1 : wsum (indK k0) [newC (lastN xs + 1) ch (flightN x) cat (platesP (n : Nat))] = 1 := by simp [wsum, indK, hnk]
        omega
      · rename_i hkk
        have hnk' : ¬ inK k (newC (lastN xs + 1) ch (flightN x) cat (platesP (n : Nat))) = true := fun hc => hkk (inK_one k8 hk hnk hc)
        have e1 : wsum (indK k) [newC (lastN xs + 1) ch (flightN x) cat (platesP (n : Nat))] = 0 := by simp [wsum, indK, hnk']
        omega
    · have := h.sum k hk
      rw [wsum_append, hb]
      split
      · rename_i hkk; subst hkk
        have e1 : wsum (lenK k0) [newC (lastN xs + 1) ch (flightN x) cat (platesP (n : Nat))] = 1 := by simp [wsum, lenK, hnk]
        omega
      · rename_i hkk
        have hnk' : ¬ inK k (newC (lastN xs + 1) ch (flightN x) cat (platesP (n : Nat))) = true := fun hc => hkk (inK_one k8 hk hnk hc)
        have e1 : wsum (lenK k) [newC (lastN xs + 1) ch (flightN x) cat (platesP (n : Nat))] = 0 := by simp [wsum, lenK, hnk']
        omega
theorem C20r {l : List Int} {k : Nat} : Fn Try.prog 20 [] [.rop (srcRow l k)] [.v (.bool (decide ((k : Int) < (l.length : Int))))] [] := by
  refine Spec.body Try.func20 rfl Try.ntmps20 (by simp) rfl ?_; intro S0 own0 v0 w0
  (refine AW.seq_k ?_; intro K hK)
  refine AW.region ?_
  refine awP (op_assign rfl rfl) ?_; (try simp only [nA, Nat.reduceBEq, Nat.reduceEqDiff, ↓reduceIte, Nat.reduceAdd, Nat.reduceSub])
  refine AWL.nil ?_
  (refine hK _ ?_; clear hK K; (try simp only [nA, Nat.reduceBEq, Nat.reduceEqDiff, ↓reduceIte, Nat.reduceAdd, Nat.reduceSub]))
  (refine AW.seq_k ?_; intro K hK)
  refine AW.quiet mix (by kernel_rfl) ?_
  refine aqP (op_move rfl rfl) ?_; (try simp only [nA, Nat.reduceBEq, Nat.reduceEqDiff, ↓reduceIte, Nat.reduceAdd, Nat.reduceSub])
  (first | refine aqP (op_nil_slot rfl rfl rfl) ?_ | refine aqP (op_nil_ptr rfl rfl) ?_); (try simp only [nA, Nat.reduceBEq, Nat.reduceEqDiff, ↓reduceIte, Nat.reduceAdd, Nat.reduceSub])
  (first | refine aqP (op_fa_ptr rfl rfl rfl fl63_1 (by exact sz3) (by decide) rfl) ?_ | refine aqP (op_fa_rop rfl rfl fl63_1 (by exact sz3) (by decide) (Nat.le_of_ble_eq_true rfl) rfl) ?_); (try simp only [nA, Nat.reduceBEq, Nat.reduceEqDiff, ↓reduceIte, Nat.reduceAdd, Nat.reduceSub])
  (first | refine aqR (op_load_ptr1 rfl rfl rfl rfl ag3 rfl rfl) ?_ | refine aqR (op_load_rop1 rfl rfl ag3) ?_); (try simp only [nA, Nat.reduceBEq, Nat.reduceEqDiff, ↓reduceIte, Nat.reduceAdd, Nat.reduceSub])
  refine aqP (op_move rfl rfl) ?_; (try simp only [nA, Nat.reduceBEq, Nat.reduceEqDiff, ↓reduceIte, Nat.reduceAdd, Nat.reduceSub])
  (first | refine aqP (op_nil_slot rfl rfl rfl) ?_ | refine aqP (op_nil_ptr rfl rfl) ?_); (try simp only [nA, Nat.reduceBEq, Nat.reduceEqDiff, ↓reduceIte, Nat.reduceAdd, Nat.reduceSub])
  (first | refine aqP (op_fa_ptr rfl rfl rfl fl63_0 (by exact sz23) (by decide) rfl) ?_ | refine aqP (op_fa_rop rfl rfl fl63_0 (by exact sz23) (by decide) (Nat.le_of_ble_eq_true rfl) rfl) ?_); (try simp only [nA, Nat.reduceBEq, Nat.reduceEqDiff, ↓reduceIte, Nat.reduceAdd, Nat.reduceSub])
  (first | refine aqR (op_load_ptr1 rfl rfl rfl rfl ag23 rfl rfl) ?_ | refine aqR (op_load_rop1 rfl rfl ag23) ?_); (try simp only [nA, Nat.reduceBEq, Nat.reduceEqDiff, ↓reduceIte, Nat.reduceAdd, Nat.reduceSub])
  (first | refine aqP (op_len_ro rfl rfl Try.underlying23 (by first | exact .inr (.inl ⟨_, rfl, rfl⟩) | exact .inl rfl | exact .inr (.inr (.inl ⟨_, rfl, rfl⟩)) | exact .inr (.inr (.inr ⟨rfl, rfl⟩)))) ?_ | refine aqP (op_len_sl rfl rfl rfl Try.underlying23) ?_ | refine aqP (op_len_str rfl rfl Try.underlying23) ?_); (try simp only [nA, Nat.reduceBEq, Nat.reduceEqDiff, ↓reduceIte, Nat.reduceAdd, Nat.reduceSub])
  refine aqP (op_lss rfl rfl rfl) ?_; (try simp only [nA, Nat.reduceBEq, Nat.reduceEqDiff, ↓reduceIte, Nat.reduceAdd, Nat.reduceSub])
  refine aqP (op_assign rfl rfl) ?_; (try simp only [nA, Nat.reduceBEq, Nat.reduceEqDiff, ↓reduceIte, Nat.reduceAdd, Nat.reduceSub])
  refine AQ.nil ?_
  (refine hK _ ?_; clear hK K; (try simp only [nA, Nat.reduceBEq, Nat.reduceEqDiff, ↓reduceIte, Nat.reduceAdd, Nat.reduceSub]))
  skip
  refine AW.ret ?_; (try simp only [thenE, inBlk, Nat.reduceEqDiff, ↓reduceIte]); exact RQ.of0 rfl (.tmp (Nat.le_of_ble_eq_true rfl) rfl rfl .nil)
abbrev nv (n : Nat) : AV := .v (.int .i64 (n : Nat))
theorem nv_at {bs : List Nat} {k : Nat} (h : k < bs.length) : (bs.map nv)[k]? = some (nv (bagN bs k)) := by
  rw [List.getElem?_map, List.getElem?_eq_getElem h]
  unfold bagN
  rw [List.getD_eq_getElem?_getD, List.getElem?_eq_getElem h]; rfl
theorem bag_le : ∀ {bs : List Nat} {k : Nat}, k < bs.length → bagN bs k ≤ bs.sum
  | b :: bs, 0, _ => by simp [bagN]
  | b :: bs, k + 1, h => by
    have := bag_le (bs := bs) (k := k) (by simpa using h)
    have e : bagN (b :: bs) (k + 1) = bagN bs k := by simp [bagN]
    rw [e, List.sum_cons]; omega
theorem splice_one {α : Type} {l : List α} {k : Nat} (x : α) (h : k < l.length) : splice l k [x] = l.set k x := by
  unfold splice
  rw [List.set_eq_take_append_cons_drop, if_pos h]
  simp
theorem row8 {bs : List Nat} (h : bs.length = 8) : (((bs.map nv).drop 0).take 8).map ldc = bs.map nv := by
  rw [List.drop_zero, List.take_of_length_le (by simp; omega), List.map_map]
  rfl
theorem wsum_ones (xs : List Cart) : wsum (fun _ => 1) xs = xs.length := by
  induction xs with
  | nil => rfl
  | cons c xs ih => rw [wsum_cons, ih, List.length_cons]; omega
theorem wsum_take {f : Cart → Nat} {xs : List Cart} {j : Nat} {c : Cart} (h : xs[j]? = some c) : wsum f (xs.take (j + 1)) = wsum f (xs.take j) + f c := by
  rw [List.take_add_one, h, wsum_append]
  simp [wsum]
set_option maxHeartbeats 8000000 in
theorem C4 {l : List Int} : Fn Try.prog 4 [] [.ro (l.map iv)] [.v (.bool true)] [] := by
  refine Spec.body Try.func4 rfl Try.ntmps4 (by simp) rfl ?_; intro S0 own0 v0 w0
  (refine AW.seq_k ?_; intro K hK)
  refine AW.region ?_
  refine awP (op_assign rfl rfl) ?_; (try simp only [nA, Nat.reduceBEq, Nat.reduceEqDiff, ↓reduceIte, Nat.reduceAdd, Nat.reduceSub])
  refine AWL.nil ?_
  (refine hK _ ?_; clear hK K; (try simp only [nA, Nat.reduceBEq, Nat.reduceEqDiff, ↓reduceIte, Nat.reduceAdd, Nat.reduceSub]))
  (refine AW.seq_k ?_; intro K hK)
  refine AW.region ?_
  refine awP (op_move rfl rfl) ?_; (try simp only [nA, Nat.reduceBEq, Nat.reduceEqDiff, ↓reduceIte, Nat.reduceAdd, Nat.reduceSub])
  refine awJ (op_callB rfl en11 (C11) (RL.cons (by first | exact View.same rfl | exact View.nil | exact View.rof | exact View.src .ro | exact View.src .rof | exact View.src (.sl rfl rfl) | exact View.ptr rfl rfl rfl) (RL.nil))) ?_; (try simp only [nA, Nat.reduceBEq, Nat.reduceEqDiff, ↓reduceIte, Nat.reduceAdd, Nat.reduceSub])
  refine awP (op_assign rfl rfl) ?_; (try simp only [nA, Nat.reduceBEq, Nat.reduceEqDiff, ↓reduceIte, Nat.reduceAdd, Nat.reduceSub])
  refine AWL.nil ?_
  (refine hK _ ?_; clear hK K; (try simp only [nA, Nat.reduceBEq, Nat.reduceEqDiff, ↓reduceIte, Nat.reduceAdd, Nat.reduceSub]))
  (refine AW.seq_k ?_; intro K hK)
  refine AW.region ?_
  refine awP (op_assign rfl rfl) ?_; (try simp only [nA, Nat.reduceBEq, Nat.reduceEqDiff, ↓reduceIte, Nat.reduceAdd, Nat.reduceSub])
  refine AWL.nil ?_
  (refine hK _ ?_; clear hK K; (try simp only [nA, Nat.reduceBEq, Nat.reduceEqDiff, ↓reduceIte, Nat.reduceAdd, Nat.reduceSub]))
  (refine AW.seq_k ?_; intro K hK)
  refine AW.region ?_
  refine awJ (op_alloc rfl ze40 rfl) ?_; (try simp only [nA, Nat.reduceBEq, Nat.reduceEqDiff, ↓reduceIte, Nat.reduceAdd, Nat.reduceSub])
  refine AWL.nil ?_
  (refine hK _ ?_; clear hK K; (try simp only [nA, Nat.reduceBEq, Nat.reduceEqDiff, ↓reduceIte, Nat.reduceAdd, Nat.reduceSub]))
  (refine AW.seq_k ?_; intro K hK)
  (refine AW.seq_k ?_; intro K hK)
  refine AW.region ?_
  refine awP (op_assign rfl rfl) ?_; (try simp only [nA, Nat.reduceBEq, Nat.reduceEqDiff, ↓reduceIte, Nat.reduceAdd, Nat.reduceSub])
  refine AWL.nil ?_
  (refine hK _ ?_; clear hK K; (try simp only [nA, Nat.reduceBEq, Nat.reduceEqDiff, ↓reduceIte, Nat.reduceAdd, Nat.reduceSub]))
  refine AW.block ?_
  refine AW.gh (Gh.nil (e := 48) 4 (Nat.le_of_ble_eq_true rfl) rfl sz48) ?_; (try simp only [nA, Nat.reduceBEq, Nat.reduceEqDiff, ↓reduceIte, Nat.reduceAdd, Nat.reduceSub]); refine AW.gh (Gh.freeze 4 (Nat.le_of_ble_eq_true rfl) rfl rfl (by simp) (es' := ([] : List Cart).map Cart.av) rfl) ?_; (try simp only [nA, Nat.reduceBEq, Nat.reduceEqDiff, ↓reduceIte, Nat.reduceAdd, Nat.reduceSub]); refine AW.gh (Gh.drop 2) ?_; (try simp only [nA, Nat.reduceBEq, Nat.reduceEqDiff, ↓reduceIte, Nat.reduceAdd, Nat.reduceSub]); refine AW.loopI (fun (q : Nat × Nat × List Cart × List Nat × Nat) => [(3, .ptr 0 1 0 0), (4, .ro (q.2.2.1.map Cart.av)), (5, .ptr 1 2 0 0), (6, .v (.int .i64 (q.1 : Nat)))]) (fun q => ⟨[(1, .own 63 [srcRow (l.take 2000) q.2.1]), (2, .own 40 [q.2.2.2.1.map nv])], q.2.2.2.2⟩) (fun q => q.1 ≤ 60 ∧ Few q.2.2.1 q.2.2.2.1 q.1) (fun q => 60 - q.1) (0, 0, [], List.replicate 8 0, _) ⟨by simp, few_nil⟩ ⟨rfl, rfl, rfl, rfl, trivial⟩ rfl ?_; rintro ⟨i, k, xs, bs, e⟩ ρ ⟨hi, hF⟩; simp only at hi hF; simp only [updL]; (try simp only [nA, Nat.reduceBEq, Nat.reduceEqDiff, ↓reduceIte, Nat.reduceAdd, Nat.reduceSub]); have hbd := inv_bd hF.inv; have hbl := hF.len
  (refine AW.seq_k ?_; intro K hK)
  (refine AW.seq_k ?_; intro K hK)
  refine AW.region (AWL.quiet ?_)
  refine aqP (op_move rfl rfl) ?_; (try simp only [nA, Nat.reduceBEq, Nat.reduceEqDiff, ↓reduceIte, Nat.reduceAdd, Nat.reduceSub])
  refine aqP (op_lss rfl rfl rfl) ?_; (try simp only [nA, Nat.reduceBEq, Nat.reduceEqDiff, ↓reduceIte, Nat.reduceAdd, Nat.reduceSub])
  refine aqP (op_move rfl rfl) ?_; (try simp only [nA, Nat.reduceBEq, Nat.reduceEqDiff, ↓reduceIte, Nat.reduceAdd, Nat.reduceSub])
  refine' aqAnd' [_, _] [23,24] rfl rfl rfl rfl rfl rfl rfl rfl rfl rfl rfl rfl (fun hb => ?_) ?_; rotate_left
  ·
   (try simp only [hcS] at hb)
   refine aqP (op_move rfl rfl) ?_; (try simp only [nA, Nat.reduceBEq, Nat.reduceEqDiff, ↓reduceIte, Nat.reduceAdd, Nat.reduceSub])
   refine aqQ (op_callQ (b := true) rfl en20 (C20r (l := (l.take 2000)) (k := k)) (RL.cons (by first | exact View.same rfl | exact View.nil | exact View.rof | exact View.src .ro | exact View.src .rof | exact View.src (.sl rfl rfl) | exact View.ptr rfl rfl rfl) (RL.nil)) rfl) ?_; (try simp only [nA, Nat.reduceBEq, Nat.reduceEqDiff, ↓reduceIte, Nat.reduceAdd, Nat.reduceSub])
   (refine aqSeg rfl rfl rfl ?_; repeat (first | exact fun _ _ => rfl | refine upd_out rfl ?_ | refine era_out rfl ?_))
  (try simp only [nA, Nat.reduceBEq, Nat.reduceEqDiff, ↓reduceIte, Nat.reduceAdd, Nat.reduceSub])
  refine AQ.nil ?_
  (refine hK _ ?_; clear hK K; (try simp only [nA, Nat.reduceBEq, Nat.reduceEqDiff, ↓reduceIte, Nat.reduceAdd, Nat.reduceSub]))
  refine AW.cond rfl rfl rfl (fun hc => ?_) (fun hc => ?_)
  ·
   (try simp only [hcS] at hc); have hc1 := hc; have hlt : i < 60 := (by have := hc.1; omega); have hg1 := gmod_bd (x := rawV (l.take 2000) k) (n := 2) (by decide); have hg2 := gmod_bd (x := rawV (l.take 2000) (rawN (l.take 2000) k)) (n := 2) (by decide); have hg3 := gmod_bd (x := rawV (l.take 2000) (rawN (l.take 2000) (rawN (l.take 2000) k))) (n := 2) (by decide); obtain ⟨hok, hF2⟩ := hF.put hlt hg1 hg2 hg3; have hkey := key_of hg1 hg2 hg3; have hbm := nv_at (bs := bs) (k := (keyN (gmod (rawV (l.take 2000) k) 2) (gmod (rawV (l.take 2000) (rawN (l.take 2000) k)) 2) (gmod (rawV (l.take 2000) (rawN (l.take 2000) (rawN (l.take 2000) k))) 2))) (by omega); have hsm : bagN bs (keyN (gmod (rawV (l.take 2000) k) 2) (gmod (rawV (l.take 2000) (rawN (l.take 2000) k)) 2) (gmod (rawV (l.take 2000) (rawN (l.take 2000) (rawN (l.take 2000) k))) 2)) ≤ 100 := (by have := list8 hbl; have h2 := hF.all; have : bagN bs (keyN (gmod (rawV (l.take 2000) k) 2) (gmod (rawV (l.take 2000) (rawN (l.take 2000) k)) 2) (gmod (rawV (l.take 2000) (rawN (l.take 2000) (rawN (l.take 2000) k))) 2)) ≤ bs.sum := bag_le (by omega); omega)
   refine AW.skip ?_
   (refine hK _ ?_; clear hK K; (try simp only [nA, Nat.reduceBEq, Nat.reduceEqDiff, ↓reduceIte, Nat.reduceAdd, Nat.reduceSub]))
   (refine AW.seq_k ?_; intro K hK)
   refine AW.block ?_
   (refine AW.seq_k ?_; intro K hK)
   refine AW.region ?_
   refine awP (op_move rfl rfl) ?_; (try simp only [nA, Nat.reduceBEq, Nat.reduceEqDiff, ↓reduceIte, Nat.reduceAdd, Nat.reduceSub])
   refine awJ (op_call1 rfl en21 (C21 (l := (l.take 2000)) (k := k) (by simp; omega) (n := 2) (by decide)) (by exact rfl) (RL.cons .ptr (RL.cons (.base (by first | exact View.same rfl | exact View.nil | exact View.rof | exact View.src .ro | exact View.src .rof | exact View.src (.sl rfl rfl) | exact View.ptr rfl rfl rfl)) (RL.nil))) (by exact ⟨_, _, _, rfl, rfl, rfl⟩) (by exact rfl) (by exact rfl) (by exact rfl)) ?_; (try simp only [nA, Nat.reduceBEq, Nat.reduceEqDiff, ↓reduceIte, Nat.reduceAdd, Nat.reduceSub])
   refine awP (op_move rfl rfl) ?_; (try simp only [nA, Nat.reduceBEq, Nat.reduceEqDiff, ↓reduceIte, Nat.reduceAdd, Nat.reduceSub])
   refine awJ (op_call1 rfl en21 (C21 (l := (l.take 2000)) (k := (rawN (l.take 2000) k)) (by simp; omega) (n := 2) (by decide)) (by exact rfl) (RL.cons .ptr (RL.cons (.base (by first | exact View.same rfl | exact View.nil | exact View.rof | exact View.src .ro | exact View.src .rof | exact View.src (.sl rfl rfl) | exact View.ptr rfl rfl rfl)) (RL.nil))) (by exact ⟨_, _, _, rfl, rfl, rfl⟩) (by exact rfl) (by exact rfl) (by exact rfl)) ?_; (try simp only [nA, Nat.reduceBEq, Nat.reduceEqDiff, ↓reduceIte, Nat.reduceAdd, Nat.reduceSub])
   refine awP (op_move rfl rfl) ?_; (try simp only [nA, Nat.reduceBEq, Nat.reduceEqDiff, ↓reduceIte, Nat.reduceAdd, Nat.reduceSub])
   refine awJ (op_call1 rfl en21 (C21 (l := (l.take 2000)) (k := (rawN (l.take 2000) (rawN (l.take 2000) k))) (by simp; omega) (n := 2) (by decide)) (by exact rfl) (RL.cons .ptr (RL.cons (.base (by first | exact View.same rfl | exact View.nil | exact View.rof | exact View.src .ro | exact View.src .rof | exact View.src (.sl rfl rfl) | exact View.ptr rfl rfl rfl)) (RL.nil))) (by exact ⟨_, _, _, rfl, rfl, rfl⟩) (by exact rfl) (by exact rfl) (by exact rfl)) ?_; (try simp only [nA, Nat.reduceBEq, Nat.reduceEqDiff, ↓reduceIte, Nat.reduceAdd, Nat.reduceSub])
   refine awP (op_assign rfl rfl) ?_; (try simp only [nA, Nat.reduceBEq, Nat.reduceEqDiff, ↓reduceIte, Nat.reduceAdd, Nat.reduceSub])
   refine awP (op_assign rfl rfl) ?_; (try simp only [nA, Nat.reduceBEq, Nat.reduceEqDiff, ↓reduceIte, Nat.reduceAdd, Nat.reduceSub])
   refine awP (op_assign rfl rfl) ?_; (try simp only [nA, Nat.reduceBEq, Nat.reduceEqDiff, ↓reduceIte, Nat.reduceAdd, Nat.reduceSub])
   refine AWL.nil ?_
   (refine hK _ ?_; clear hK K; (try simp only [nA, Nat.reduceBEq, Nat.reduceEqDiff, ↓reduceIte, Nat.reduceAdd, Nat.reduceSub]))
   (refine AW.seq_k ?_; intro K hK)
   refine AW.region ?_
   refine awP (op_move rfl rfl) ?_; (try simp only [nA, Nat.reduceBEq, Nat.reduceEqDiff, ↓reduceIte, Nat.reduceAdd, Nat.reduceSub])
   refine awP (op_move rfl rfl) ?_; (try simp only [nA, Nat.reduceBEq, Nat.reduceEqDiff, ↓reduceIte, Nat.reduceAdd, Nat.reduceSub])
   refine awP (op_move rfl rfl) ?_; (try simp only [nA, Nat.reduceBEq, Nat.reduceEqDiff, ↓reduceIte, Nat.reduceAdd, Nat.reduceSub])
   refine awJ (OpQ.j (op_callQA (b := true) rfl en23 (C23g (n := 2) (by decide)) (RL.cons (by first | exact View.same rfl | exact View.nil | exact View.rof | exact View.src .ro | exact View.src .rof | exact View.src (.sl rfl rfl) | exact View.ptr rfl rfl rfl) (RL.nil)) rfl)) ?_; (try simp only [nA, Nat.reduceBEq, Nat.reduceEqDiff, ↓reduceIte, Nat.reduceAdd, Nat.reduceSub])
   refine awP (op_move rfl rfl) ?_; (try simp only [nA, Nat.reduceBEq, Nat.reduceEqDiff, ↓reduceIte, Nat.reduceAdd, Nat.reduceSub])
   refine awP (op_move rfl rfl) ?_; (try simp only [nA, Nat.reduceBEq, Nat.reduceEqDiff, ↓reduceIte, Nat.reduceAdd, Nat.reduceSub])
   refine awJ (op_call (b := false) rfl en24 (C24 (i := (i : Nat))) (RL.cons (by first | exact View.same rfl | exact View.nil | exact View.rof | exact View.src .ro | exact View.src .rof | exact View.src (.sl rfl rfl) | exact View.ptr rfl rfl rfl) (RL.nil)) rfl (fun h => by cases h) rfl rfl) ?_; (try simp only [nA, Nat.reduceBEq, Nat.reduceEqDiff, ↓reduceIte, Nat.reduceAdd, Nat.reduceSub])
   refine awJ (op_call (b := false) rfl en22 (C22 (xs := xs) (ch := (gmod (rawV (l.take 2000) k) 2)) (f := flightN (gmod (rawV (l.take 2000) (rawN (l.take 2000) k)) 2)) (cat := (gmod (rawV (l.take 2000) (rawN (l.take 2000) (rawN (l.take 2000) k))) 2)) (p := platesP (i : Nat)) hbd.1 hbd.2) (RL.cons (by first | exact View.same rfl | exact View.nil | exact View.rof | exact View.src .ro | exact View.src .rof | exact View.src (.sl rfl rfl) | exact View.ptr rfl rfl rfl) (RL.cons (by first | exact View.same rfl | exact View.nil | exact View.rof | exact View.src .ro | exact View.src .rof | exact View.src (.sl rfl rfl) | exact View.ptr rfl rfl rfl) (RL.cons (by first | exact View.same rfl | exact View.nil | exact View.rof | exact View.src .ro | exact View.src .rof | exact View.src (.sl rfl rfl) | exact View.ptr rfl rfl rfl) (RL.cons (by first | exact View.same rfl | exact View.nil | exact View.rof | exact View.src .ro | exact View.src .rof | exact View.src (.sl rfl rfl) | exact View.ptr rfl rfl rfl) (RL.cons (by first | exact View.same rfl | exact View.nil | exact View.rof | exact View.src .ro | exact View.src .rof | exact View.src (.sl rfl rfl) | exact View.ptr rfl rfl rfl) (RL.nil)))))) rfl (fun h => by cases h) rfl rfl) ?_; (try simp only [nA, Nat.reduceBEq, Nat.reduceEqDiff, ↓reduceIte, Nat.reduceAdd, Nat.reduceSub])
   refine awP (op_move rfl rfl) ?_; (try simp only [nA, Nat.reduceBEq, Nat.reduceEqDiff, ↓reduceIte, Nat.reduceAdd, Nat.reduceSub])
   refine awP (op_extract rfl rfl rfl) ?_; (try simp only [nA, Nat.reduceBEq, Nat.reduceEqDiff, ↓reduceIte, Nat.reduceAdd, Nat.reduceSub])
   refine awP (op_extract rfl rfl rfl) ?_; (try simp only [nA, Nat.reduceBEq, Nat.reduceEqDiff, ↓reduceIte, Nat.reduceAdd, Nat.reduceSub])
   refine awP (op_extract rfl rfl rfl) ?_; (try simp only [nA, Nat.reduceBEq, Nat.reduceEqDiff, ↓reduceIte, Nat.reduceAdd, Nat.reduceSub])
   refine awP (op_assign rfl rfl) ?_; (try simp only [nA, Nat.reduceBEq, Nat.reduceEqDiff, ↓reduceIte, Nat.reduceAdd, Nat.reduceSub])
   refine awP (op_assign rfl rfl) ?_; (try simp only [nA, Nat.reduceBEq, Nat.reduceEqDiff, ↓reduceIte, Nat.reduceAdd, Nat.reduceSub])
   refine awP (op_assign rfl rfl) ?_; (try simp only [nA, Nat.reduceBEq, Nat.reduceEqDiff, ↓reduceIte, Nat.reduceAdd, Nat.reduceSub])
   refine AWL.nil ?_
   (refine hK _ ?_; clear hK K; (try simp only [nA, Nat.reduceBEq, Nat.reduceEqDiff, ↓reduceIte, Nat.reduceAdd, Nat.reduceSub]))
   (refine AW.seq_k ?_; intro K hK)
   (refine AW.seq_k ?_; intro K hK)
   refine AW.region ?_
   refine awP (op_move rfl rfl) ?_; (try simp only [nA, Nat.reduceBEq, Nat.reduceEqDiff, ↓reduceIte, Nat.reduceAdd, Nat.reduceSub])
   (first | refine awP (op_neq rfl rfl rfl) ?_ | refine awP (op_sneq rfl rfl rfl) ?_); (try simp only [nA, Nat.reduceBEq, Nat.reduceEqDiff, ↓reduceIte, Nat.reduceAdd, Nat.reduceSub])
   refine AWL.nil ?_
   (refine hK _ ?_; clear hK K; (try simp only [nA, Nat.reduceBEq, Nat.reduceEqDiff, ↓reduceIte, Nat.reduceAdd, Nat.reduceSub]))
   refine AW.cond rfl rfl rfl (fun hc => ?_) (fun hc => ?_)
   ·
    (try simp only [hcS] at hc); have hc2 := hc; skip
    (refine AW.seq_k ?_; intro K hK)
    refine AW.region ?_
    refine awP (op_assign rfl rfl) ?_; (try simp only [nA, Nat.reduceBEq, Nat.reduceEqDiff, ↓reduceIte, Nat.reduceAdd, Nat.reduceSub])
    refine AWL.nil ?_
    (refine hK _ ?_; clear hK K; (try simp only [nA, Nat.reduceBEq, Nat.reduceEqDiff, ↓reduceIte, Nat.reduceAdd, Nat.reduceSub]))
    skip
    refine AW.ret ?_; (try simp only [thenE, inBlk, Nat.reduceEqDiff, ↓reduceIte]); exact absurd hok hc
   ·
    (try simp only [hcS] at hc); have hc2 := hc; skip
    refine AW.skip ?_
    (refine hK _ ?_; clear hK K; (try simp only [nA, Nat.reduceBEq, Nat.reduceEqDiff, ↓reduceIte, Nat.reduceAdd, Nat.reduceSub]))
    (refine AW.seq_k ?_; intro K hK)
    refine AW.region ?_
    refine awP (op_move rfl rfl) ?_; (try simp only [nA, Nat.reduceBEq, Nat.reduceEqDiff, ↓reduceIte, Nat.reduceAdd, Nat.reduceSub])
    refine awP (op_assign rfl rfl) ?_; (try simp only [nA, Nat.reduceBEq, Nat.reduceEqDiff, ↓reduceIte, Nat.reduceAdd, Nat.reduceSub])
    refine AWL.nil ?_
    (refine hK _ ?_; clear hK K; (try simp only [nA, Nat.reduceBEq, Nat.reduceEqDiff, ↓reduceIte, Nat.reduceAdd, Nat.reduceSub]))
    refine AW.region ?_
    refine awP (op_move rfl rfl) ?_; (try simp only [nA, Nat.reduceBEq, Nat.reduceEqDiff, ↓reduceIte, Nat.reduceAdd, Nat.reduceSub])
    (first | refine awP (op_muli rfl rfl rfl (by omega)) ?_ | refine awP (op_mul rfl rfl rfl rfl) ?_); (try simp only [nA, Nat.reduceBEq, Nat.reduceEqDiff, ↓reduceIte, Nat.reduceAdd, Nat.reduceSub])
    refine awP (op_move rfl rfl) ?_; (try simp only [nA, Nat.reduceBEq, Nat.reduceEqDiff, ↓reduceIte, Nat.reduceAdd, Nat.reduceSub])
    (first | refine awP (op_muli rfl rfl rfl (by omega)) ?_ | refine awP (op_mul rfl rfl rfl rfl) ?_); (try simp only [nA, Nat.reduceBEq, Nat.reduceEqDiff, ↓reduceIte, Nat.reduceAdd, Nat.reduceSub])
    (first | refine awP (op_addi rfl rfl rfl (by omega)) ?_ | refine awP (op_add rfl rfl rfl rfl) ?_); (try simp only [nA, Nat.reduceBEq, Nat.reduceEqDiff, ↓reduceIte, Nat.reduceAdd, Nat.reduceSub])
    refine awP (op_move rfl rfl) ?_; (try simp only [nA, Nat.reduceBEq, Nat.reduceEqDiff, ↓reduceIte, Nat.reduceAdd, Nat.reduceSub])
    (first | refine awP (op_addi rfl rfl rfl (by omega)) ?_ | refine awP (op_add rfl rfl rfl rfl) ?_); (try simp only [nA, Nat.reduceBEq, Nat.reduceEqDiff, ↓reduceIte, Nat.reduceAdd, Nat.reduceSub])
    refine awP (op_ia_arr (keyN (gmod (rawV (l.take 2000) k) 2) (gmod (rawV (l.take 2000) (rawN (l.take 2000) k)) 2) (gmod (rawV (l.take 2000) (rawN (l.take 2000) (rawN (l.take 2000) k))) 2)) 1 rfl rfl rfl rfl Try.underlying40 (by omega) (by omega) sz3 (j' := (keyN (gmod (rawV (l.take 2000) k) 2) (gmod (rawV (l.take 2000) (rawN (l.take 2000) k)) 2) (gmod (rawV (l.take 2000) (rawN (l.take 2000) (rawN (l.take 2000) k))) 2))) (by rw [Nat.mul_one, Nat.zero_add])) ?_; (try simp only [nA, Nat.reduceBEq, Nat.reduceEqDiff, ↓reduceIte, Nat.reduceAdd, Nat.reduceSub])
    (first | refine awR (op_load_ptr1 rfl rfl rfl rfl ag3 hbm rfl) ?_ | refine awR (op_load_rop1 rfl rfl ag3) ?_); (try simp only [nA, Nat.reduceBEq, Nat.reduceEqDiff, ↓reduceIte, Nat.reduceAdd, Nat.reduceSub])
    (first | refine awP (op_addi rfl rfl rfl (by omega)) ?_ | refine awP (op_add rfl rfl rfl rfl) ?_); (try simp only [nA, Nat.reduceBEq, Nat.reduceEqDiff, ↓reduceIte, Nat.reduceAdd, Nat.reduceSub])
    refine awP (op_ia_arr (keyN (gmod (rawV (l.take 2000) k) 2) (gmod (rawV (l.take 2000) (rawN (l.take 2000) k)) 2) (gmod (rawV (l.take 2000) (rawN (l.take 2000) (rawN (l.take 2000) k))) 2)) 1 rfl rfl rfl rfl Try.underlying40 (by omega) (by omega) sz3 (j' := (keyN (gmod (rawV (l.take 2000) k) 2) (gmod (rawV (l.take 2000) (rawN (l.take 2000) k)) 2) (gmod (rawV (l.take 2000) (rawN (l.take 2000) (rawN (l.take 2000) k))) 2))) (by rw [Nat.mul_one, Nat.zero_add])) ?_; (try simp only [nA, Nat.reduceBEq, Nat.reduceEqDiff, ↓reduceIte, Nat.reduceAdd, Nat.reduceSub])
    refine awJ (op_store rfl rfl rfl rfl rfl rfl sz3 rfl (by simp; omega) (es' := [(bs.set (keyN (gmod (rawV (l.take 2000) k) 2) (gmod (rawV (l.take 2000) (rawN (l.take 2000) k)) 2) (gmod (rawV (l.take 2000) (rawN (l.take 2000) (rawN (l.take 2000) k))) 2)) (bagN bs (keyN (gmod (rawV (l.take 2000) k) 2) (gmod (rawV (l.take 2000) (rawN (l.take 2000) k)) 2) (gmod (rawV (l.take 2000) (rawN (l.take 2000) (rawN (l.take 2000) k))) 2)) + 1)).map nv]) (by rw [List.map_set]; show [splice (bs.map nv) (keyN (gmod (rawV (l.take 2000) k) 2) (gmod (rawV (l.take 2000) (rawN (l.take 2000) k)) 2) (gmod (rawV (l.take 2000) (rawN (l.take 2000) (rawN (l.take 2000) k))) 2)) [_]] = _; rw [splice_one _ (by simp; omega)]; rfl)) ?_; (try simp only [nA, Nat.reduceBEq, Nat.reduceEqDiff, ↓reduceIte, Nat.reduceAdd, Nat.reduceSub])
    refine AWL.nil ?_
    (try simp only [thenE, inBlk, Nat.reduceEqDiff, ↓reduceIte])
    (refine hK _ ?_; clear hK K; (try simp only [nA, Nat.reduceBEq, Nat.reduceEqDiff, ↓reduceIte, Nat.reduceAdd, Nat.reduceSub]))
    refine AW.region ?_
    refine awP (op_move rfl rfl) ?_; (try simp only [nA, Nat.reduceBEq, Nat.reduceEqDiff, ↓reduceIte, Nat.reduceAdd, Nat.reduceSub])
    (first | refine awP (op_addi rfl rfl rfl (by omega)) ?_ | refine awP (op_add rfl rfl rfl rfl) ?_); (try simp only [nA, Nat.reduceBEq, Nat.reduceEqDiff, ↓reduceIte, Nat.reduceAdd, Nat.reduceSub])
    refine awP (op_assign rfl rfl) ?_; (try simp only [nA, Nat.reduceBEq, Nat.reduceEqDiff, ↓reduceIte, Nat.reduceAdd, Nat.reduceSub])
    skip
    refine AWL.nil ?_
    refine ⟨(i + 1, rawN (l.take 2000) (rawN (l.take 2000) (rawN (l.take 2000) k)), (putV xs (gmod (rawV (l.take 2000) k) 2) (flightN (gmod (rawV (l.take 2000) (rawN (l.take 2000) k)) 2)) (gmod (rawV (l.take 2000) (rawN (l.take 2000) (rawN (l.take 2000) k))) 2) (platesP (i : Nat))).1, (bs.set (keyN (gmod (rawV (l.take 2000) k) 2) (gmod (rawV (l.take 2000) (rawN (l.take 2000) k)) 2) (gmod (rawV (l.take 2000) (rawN (l.take 2000) (rawN (l.take 2000) k))) 2)) (bagN bs (keyN (gmod (rawV (l.take 2000) k) 2) (gmod (rawV (l.take 2000) (rawN (l.take 2000) k)) 2) (gmod (rawV (l.take 2000) (rawN (l.take 2000) (rawN (l.take 2000) k))) 2)) + 1)), e), ⟨by dsimp only; omega, hF2⟩, by dsimp only; omega, ⟨rfl, rfl, rfl, rfl, trivial⟩, (by first | rfl | trivial), (by first | rfl | trivial)⟩
  ·
   (try simp only [hcS] at hc); have hc1 := hc; skip
   refine AW.exit ?_; (try simp only [thenE, inBlk, Nat.reduceEqDiff, ↓reduceIte])
   clear hK K
   (refine hK _ ?_; clear hK K; (try simp only [nA, Nat.reduceBEq, Nat.reduceEqDiff, ↓reduceIte, Nat.reduceAdd, Nat.reduceSub]))
   (refine AW.seq_k ?_; intro K hK)
   (refine AW.seq_k ?_; intro K hK)
   refine AW.region ?_
   (first | refine awR (op_load_ptr rfl rfl rfl rfl ag40 sz40 (by simp; omega) (xs := bs.map nv) (row8 hbl)) ?_ | refine awR (op_load_rop rfl rfl ag40 sz40 (Nat.le_of_ble_eq_true rfl) (by decide) rfl) ?_); (try simp only [nA, Nat.reduceBEq, Nat.reduceEqDiff, ↓reduceIte, Nat.reduceAdd, Nat.reduceSub])
   refine awP (op_move rfl rfl) ?_; (try simp only [nA, Nat.reduceBEq, Nat.reduceEqDiff, ↓reduceIte, Nat.reduceAdd, Nat.reduceSub])
   refine AWL.nil ?_
   (refine hK _ ?_; clear hK K; (try simp only [nA, Nat.reduceBEq, Nat.reduceEqDiff, ↓reduceIte, Nat.reduceAdd, Nat.reduceSub]))
   refine AW.block ?_
   refine AW.gh (Gh.drop 0) ?_; (try simp only [nA, Nat.reduceBEq, Nat.reduceEqDiff, ↓reduceIte, Nat.reduceAdd, Nat.reduceSub]); refine AW.loopI (fun (q : Nat × Nat) => [(4, .ro (xs.map Cart.av)), (60, .agg (bs.map nv)), (61, .v (.int .i64 (q.1 : Nat)))]) (fun q => ⟨[], q.2⟩) (fun q => q.1 ≤ 8) (fun q => 8 - q.1) (0, _) (by simp) ⟨rfl, rfl, rfl, trivial⟩ rfl ?_; rintro ⟨m, e2⟩ ρ hm; simp only at hm; simp only [updL]; (try simp only [nA, Nat.reduceBEq, Nat.reduceEqDiff, ↓reduceIte, Nat.reduceAdd, Nat.reduceSub])
   (refine AW.seq_k ?_; intro K hK)
   refine AW.region ?_
   refine awP (op_lss rfl rfl rfl) ?_; (try simp only [nA, Nat.reduceBEq, Nat.reduceEqDiff, ↓reduceIte, Nat.reduceAdd, Nat.reduceSub])
   refine AWL.nil ?_
   (refine hK _ ?_; clear hK K; (try simp only [nA, Nat.reduceBEq, Nat.reduceEqDiff, ↓reduceIte, Nat.reduceAdd, Nat.reduceSub]))
   (refine AW.seq_k ?_; intro K hK)
   refine AW.cond rfl rfl rfl (fun hc => ?_) (fun hc => ?_)
   ·
    (try simp only [hcS] at hc); have hc3 := hc; have hml : m < 8 := (by omega); have hbm := nv_at (bs := bs) (k := m) (by omega); have hnm := hF.num m hml; have hsm : bagN bs m ≤ 100 := (by have h2 := hF.all; have : bagN bs m ≤ bs.sum := bag_le (by omega); omega); have hwl : ∀ j, wsum (indK m) (xs.take j) ≤ 1000 := (fun j => by have h1 := wsum_le (f := indK m) (g := fun _ => 1) (xs := xs.take j) (fun c _ => by unfold indK; split <;> omega); have h2 : wsum (fun _ => 1) (xs.take j) = (xs.take j).length := wsum_ones _; have h3 : (xs.take j).length ≤ xs.length := List.length_take_le' _ _; have := hbd.1; omega)
    refine AW.skip ?_
    (refine hK _ ?_; clear hK K; (try simp only [nA, Nat.reduceBEq, Nat.reduceEqDiff, ↓reduceIte, Nat.reduceAdd, Nat.reduceSub]))
    (refine AW.seq_k ?_; intro K hK)
    refine AW.block ?_
    (refine AW.seq_k ?_; intro K hK)
    refine AW.region ?_
    refine awP (op_move rfl rfl) ?_; (try simp only [nA, Nat.reduceBEq, Nat.reduceEqDiff, ↓reduceIte, Nat.reduceAdd, Nat.reduceSub])
    refine awP (op_ix_arr m rfl rfl rfl Try.underlying40 rfl hml sz3 ag3 hbm) ?_; (try simp only [nA, Nat.reduceBEq, Nat.reduceEqDiff, ↓reduceIte, Nat.reduceAdd, Nat.reduceSub])
    refine awP (op_assign rfl rfl) ?_; (try simp only [nA, Nat.reduceBEq, Nat.reduceEqDiff, ↓reduceIte, Nat.reduceAdd, Nat.reduceSub])
    refine awP (op_assign rfl rfl) ?_; (try simp only [nA, Nat.reduceBEq, Nat.reduceEqDiff, ↓reduceIte, Nat.reduceAdd, Nat.reduceSub])
    refine AWL.nil ?_
    (refine hK _ ?_; clear hK K; (try simp only [nA, Nat.reduceBEq, Nat.reduceEqDiff, ↓reduceIte, Nat.reduceAdd, Nat.reduceSub]))
    (refine AW.seq_k ?_; intro K hK)
    refine AW.region ?_
    refine awP (op_assign rfl rfl) ?_; (try simp only [nA, Nat.reduceBEq, Nat.reduceEqDiff, ↓reduceIte, Nat.reduceAdd, Nat.reduceSub])
    refine AWL.nil ?_
    (refine hK _ ?_; clear hK K; (try simp only [nA, Nat.reduceBEq, Nat.reduceEqDiff, ↓reduceIte, Nat.reduceAdd, Nat.reduceSub]))
    (refine AW.seq_k ?_; intro K hK)
    (refine AW.seq_k ?_; intro K hK)
    refine AW.region ?_
    refine awP (op_move rfl rfl) ?_; (try simp only [nA, Nat.reduceBEq, Nat.reduceEqDiff, ↓reduceIte, Nat.reduceAdd, Nat.reduceSub])
    (first | refine awP (op_len_ro rfl rfl Try.underlying22 (by first | exact .inr (.inl ⟨_, rfl, rfl⟩) | exact .inl rfl | exact .inr (.inr (.inl ⟨_, rfl, rfl⟩)) | exact .inr (.inr (.inr ⟨rfl, rfl⟩)))) ?_ | refine awP (op_len_sl rfl rfl rfl Try.underlying22) ?_ | refine awP (op_len_str rfl rfl Try.underlying22) ?_); (try simp only [nA, Nat.reduceBEq, Nat.reduceEqDiff, ↓reduceIte, Nat.reduceAdd, Nat.reduceSub])
    refine awP (op_move rfl rfl) ?_; (try simp only [nA, Nat.reduceBEq, Nat.reduceEqDiff, ↓reduceIte, Nat.reduceAdd, Nat.reduceSub])
    refine AWL.nil ?_
    (refine hK _ ?_; clear hK K; (try simp only [nA, Nat.reduceBEq, Nat.reduceEqDiff, ↓reduceIte, Nat.reduceAdd, Nat.reduceSub]))
    refine AW.block ?_
    refine AW.loopI (fun (q : Nat × Nat) => [(4, .ro (xs.map Cart.av)), (60, .agg (bs.map nv)), (61, .v (.int .i64 (m : Nat))), (13, .v (.int .i64 (m : Nat))), (14, nv (bagN bs m)), (15, nv (wsum (indK m) (xs.take q.1))), (65, .ro (xs.map Cart.av)), (66, .v (.int .i64 (xs.length : Nat))), (67, .v (.int .i64 (q.1 : Nat)))]) (fun q => ⟨[], q.2⟩) (fun q => q.1 ≤ xs.length) (fun q => xs.length - q.1) (0, e2) (by simp) ⟨rfl, rfl, rfl, rfl, rfl, rfl, rfl, rfl, rfl, trivial⟩ rfl ?_; rintro ⟨j, e3⟩ ρ hj; simp only at hj; simp only [updL]; (try simp only [nA, Nat.reduceBEq, Nat.reduceEqDiff, ↓reduceIte, Nat.reduceAdd, Nat.reduceSub]); have hw0 := hwl j
    (refine AW.seq_k ?_; intro K hK)
    refine AW.region ?_
    refine awP (op_lss rfl rfl rfl) ?_; (try simp only [nA, Nat.reduceBEq, Nat.reduceEqDiff, ↓reduceIte, Nat.reduceAdd, Nat.reduceSub])
    refine AWL.nil ?_
    (refine hK _ ?_; clear hK K; (try simp only [nA, Nat.reduceBEq, Nat.reduceEqDiff, ↓reduceIte, Nat.reduceAdd, Nat.reduceSub]))
    (refine AW.seq_k ?_; intro K hK)
    refine AW.cond rfl rfl rfl (fun hc => ?_) (fun hc => ?_)
    ·
     (try simp only [hcS] at hc); have hc4 := hc; have hjl : j < xs.length := (by omega); obtain ⟨c, hcj⟩ : ∃ c, xs[j]? = some c := ⟨xs[j], List.getElem?_eq_getElem hjl⟩; have hwt := wsum_take (f := indK m) hcj
     refine AW.skip ?_
     (refine hK _ ?_; clear hK K; (try simp only [nA, Nat.reduceBEq, Nat.reduceEqDiff, ↓reduceIte, Nat.reduceAdd, Nat.reduceSub]))
     (refine AW.seq_k ?_; intro K hK)
     refine AW.block ?_
     (refine AW.seq_k ?_; intro K hK)
     refine AW.region ?_
     (first | refine awP (op_ia_ro j rfl (.inl rfl) rfl Try.underlying22 rfl (get_of hcj) (by exact sz48) (Nat.le_of_ble_eq_true rfl)) ?_ | refine awP (op_ia_sl _ _ rfl rfl rfl rfl Try.underlying22 rfl (by omega) (by exact sz48) rfl) ?_); (try simp only [nA, Nat.reduceBEq, Nat.reduceEqDiff, ↓reduceIte, Nat.reduceAdd, Nat.reduceSub])
     (first | refine awR (op_load_ptr rfl rfl rfl rfl ag48 sz48 (Nat.le_of_ble_eq_true rfl) rfl) ?_ | refine awR (op_load_rop rfl rfl ag48 sz48 (Nat.le_of_ble_eq_true rfl) (by decide) rfl) ?_); (try simp only [nA, Nat.reduceBEq, Nat.reduceEqDiff, ↓reduceIte, Nat.reduceAdd, Nat.reduceSub])
     refine awJ (op_alloc rfl ze48 rfl) ?_; (try simp only [nA, Nat.reduceBEq, Nat.reduceEqDiff, ↓reduceIte, Nat.reduceAdd, Nat.reduceSub])
     refine awJ (op_store rfl rfl rfl rfl rfl rfl sz48 rfl (Nat.le_of_ble_eq_true rfl) rfl) ?_; (try simp only [nA, Nat.reduceBEq, Nat.reduceEqDiff, ↓reduceIte, Nat.reduceAdd, Nat.reduceSub])
     refine AWL.nil ?_
     (refine hK _ ?_; clear hK K; (try simp only [nA, Nat.reduceBEq, Nat.reduceEqDiff, ↓reduceIte, Nat.reduceAdd, Nat.reduceSub]))
     (refine AW.seq_k ?_; intro K hK)
     refine AW.quiet mix (by kernel_rfl) ?_
     (first | refine aqP (op_fa_ptr rfl rfl rfl fl48_1 (by exact sz3) (by decide) rfl) ?_ | refine aqP (op_fa_rop rfl rfl fl48_1 (by exact sz3) (by decide) (Nat.le_of_ble_eq_true rfl) rfl) ?_); (try simp only [nA, Nat.reduceBEq, Nat.reduceEqDiff, ↓reduceIte, Nat.reduceAdd, Nat.reduceSub])
     (first | refine aqR (op_load_ptr1 rfl rfl rfl rfl ag3 rfl rfl) ?_ | refine aqR (op_load_rop1 rfl rfl ag3) ?_); (try simp only [nA, Nat.reduceBEq, Nat.reduceEqDiff, ↓reduceIte, Nat.reduceAdd, Nat.reduceSub])
     refine aqP (op_move rfl rfl) ?_; (try simp only [nA, Nat.reduceBEq, Nat.reduceEqDiff, ↓reduceIte, Nat.reduceAdd, Nat.reduceSub])
     (first | refine aqP (op_quoi rfl rfl rfl (by omega)) ?_ | refine aqP (op_quo rfl rfl rfl (by omega) rfl) ?_); (try simp only [nA, Nat.reduceBEq, Nat.reduceEqDiff, ↓reduceIte, Nat.reduceAdd, Nat.reduceSub])
     (first | refine aqP (op_eql rfl rfl rfl) ?_ | refine aqP (op_seql rfl rfl rfl) ?_); (try simp only [nA, Nat.reduceBEq, Nat.reduceEqDiff, ↓reduceIte, Nat.reduceAdd, Nat.reduceSub])
     refine aqP (op_move rfl rfl) ?_; (try simp only [nA, Nat.reduceBEq, Nat.reduceEqDiff, ↓reduceIte, Nat.reduceAdd, Nat.reduceSub])
     refine' aqAnd' [_, _, _, _, _, _, _] [77,78,79,80,81,82,83] rfl rfl rfl rfl rfl rfl rfl rfl rfl rfl rfl rfl (fun hb => ?_) ?_; rotate_left
     ·
      (try simp only [hcS] at hb)
      (first | refine aqP (op_fa_ptr rfl rfl rfl fl48_2 (by exact sz45) (by decide) rfl) ?_ | refine aqP (op_fa_rop rfl rfl fl48_2 (by exact sz45) (by decide) (Nat.le_of_ble_eq_true rfl) rfl) ?_); (try simp only [nA, Nat.reduceBEq, Nat.reduceEqDiff, ↓reduceIte, Nat.reduceAdd, Nat.reduceSub])
      (first | refine aqR (op_load_ptr rfl rfl rfl rfl ag45 sz45 (Nat.le_of_ble_eq_true rfl) rfl) ?_ | refine aqR (op_load_rop rfl rfl ag45 sz45 (Nat.le_of_ble_eq_true rfl) (by decide) rfl) ?_); (try simp only [nA, Nat.reduceBEq, Nat.reduceEqDiff, ↓reduceIte, Nat.reduceAdd, Nat.reduceSub])
      refine aqP (op_move rfl rfl) ?_; (try simp only [nA, Nat.reduceBEq, Nat.reduceEqDiff, ↓reduceIte, Nat.reduceAdd, Nat.reduceSub])
      (first | refine aqP (op_quoi rfl rfl rfl (by omega)) ?_ | refine aqP (op_quo rfl rfl rfl (by omega) rfl) ?_); (try simp only [nA, Nat.reduceBEq, Nat.reduceEqDiff, ↓reduceIte, Nat.reduceAdd, Nat.reduceSub])
      (first | refine aqP (op_remi rfl rfl rfl (by omega)) ?_ | refine aqP (op_rem rfl rfl rfl (by omega) rfl) ?_); (try simp only [nA, Nat.reduceBEq, Nat.reduceEqDiff, ↓reduceIte, Nat.reduceAdd, Nat.reduceSub])
      refine aqQ (op_callQA (b := true) rfl en23 (C23 ((m : Int) / 2 % 2) (by omega)) (RL.cons (by first | exact View.same rfl | exact View.nil | exact View.rof | exact View.src .ro | exact View.src .rof | exact View.src (.sl rfl rfl) | exact View.ptr rfl rfl rfl) (RL.nil)) rfl) ?_; (try simp only [nA, Nat.reduceBEq, Nat.reduceEqDiff, ↓reduceIte, Nat.reduceAdd, Nat.reduceSub])
      refine aqP (op_eq45 rfl rfl rfl) ?_; (try simp only [nA, Nat.reduceBEq, Nat.reduceEqDiff, ↓reduceIte, Nat.reduceAdd, Nat.reduceSub])
      (refine aqSeg rfl rfl rfl ?_; repeat (first | exact fun _ _ => rfl | refine upd_out rfl ?_ | refine era_out rfl ?_))
     (try simp only [nA, Nat.reduceBEq, Nat.reduceEqDiff, ↓reduceIte, Nat.reduceAdd, Nat.reduceSub])
     refine aqP (op_move rfl rfl) ?_; (try simp only [nA, Nat.reduceBEq, Nat.reduceEqDiff, ↓reduceIte, Nat.reduceAdd, Nat.reduceSub])
     refine' aqAnd' [_, _, _, _, _] [86,87,88,89,90] rfl rfl rfl rfl rfl rfl rfl rfl rfl rfl rfl rfl (fun hb => ?_) ?_; rotate_left
     ·
      (try simp only [hcS] at hb)
      (first | refine aqP (op_fa_ptr rfl rfl rfl fl48_3 (by exact sz3) (by decide) rfl) ?_ | refine aqP (op_fa_rop rfl rfl fl48_3 (by exact sz3) (by decide) (Nat.le_of_ble_eq_true rfl) rfl) ?_); (try simp only [nA, Nat.reduceBEq, Nat.reduceEqDiff, ↓reduceIte, Nat.reduceAdd, Nat.reduceSub])
      (first | refine aqR (op_load_ptr1 rfl rfl rfl rfl ag3 rfl rfl) ?_ | refine aqR (op_load_rop1 rfl rfl ag3) ?_); (try simp only [nA, Nat.reduceBEq, Nat.reduceEqDiff, ↓reduceIte, Nat.reduceAdd, Nat.reduceSub])
      refine aqP (op_move rfl rfl) ?_; (try simp only [nA, Nat.reduceBEq, Nat.reduceEqDiff, ↓reduceIte, Nat.reduceAdd, Nat.reduceSub])
      (first | refine aqP (op_remi rfl rfl rfl (by omega)) ?_ | refine aqP (op_rem rfl rfl rfl (by omega) rfl) ?_); (try simp only [nA, Nat.reduceBEq, Nat.reduceEqDiff, ↓reduceIte, Nat.reduceAdd, Nat.reduceSub])
      (first | refine aqP (op_eql rfl rfl rfl) ?_ | refine aqP (op_seql rfl rfl rfl) ?_); (try simp only [nA, Nat.reduceBEq, Nat.reduceEqDiff, ↓reduceIte, Nat.reduceAdd, Nat.reduceSub])
      (refine aqSeg rfl rfl rfl ?_; repeat (first | exact fun _ _ => rfl | refine upd_out rfl ?_ | refine era_out rfl ?_))
     (try simp only [nA, Nat.reduceBEq, Nat.reduceEqDiff, ↓reduceIte, Nat.reduceAdd, Nat.reduceSub])
     refine AQ.nil ?_
     (refine hK _ ?_; clear hK K; (try simp only [nA, Nat.reduceBEq, Nat.reduceEqDiff, ↓reduceIte, Nat.reduceAdd, Nat.reduceSub]))
     refine AW.cond rfl rfl rfl (fun hc => ?_) (fun hc => ?_)
     ·
      (try simp only [hcS] at hc); have hc5 := hc; skip
      refine AW.region ?_
      refine awP (op_move rfl rfl) ?_; (try simp only [nA, Nat.reduceBEq, Nat.reduceEqDiff, ↓reduceIte, Nat.reduceAdd, Nat.reduceSub])
      (first | refine awP (op_addi rfl rfl rfl (by omega)) ?_ | refine awP (op_add rfl rfl rfl rfl) ?_); (try simp only [nA, Nat.reduceBEq, Nat.reduceEqDiff, ↓reduceIte, Nat.reduceAdd, Nat.reduceSub])
      refine awP (op_assign rfl rfl) ?_; (try simp only [nA, Nat.reduceBEq, Nat.reduceEqDiff, ↓reduceIte, Nat.reduceAdd, Nat.reduceSub])
      refine AWL.nil ?_
      (try simp only [thenE, inBlk, Nat.reduceEqDiff, ↓reduceIte])
      (refine hK _ ?_; clear hK K; (try simp only [nA, Nat.reduceBEq, Nat.reduceEqDiff, ↓reduceIte, Nat.reduceAdd, Nat.reduceSub]))
      refine AW.region ?_
      (first | refine awP (op_addi rfl rfl rfl (by omega)) ?_ | refine awP (op_add rfl rfl rfl rfl) ?_); (try simp only [nA, Nat.reduceBEq, Nat.reduceEqDiff, ↓reduceIte, Nat.reduceAdd, Nat.reduceSub])
      refine awP (op_move rfl rfl) ?_; (try simp only [nA, Nat.reduceBEq, Nat.reduceEqDiff, ↓reduceIte, Nat.reduceAdd, Nat.reduceSub])
      refine AWL.gh (Gh.drop 0) ?_; (try simp only [nA, Nat.reduceBEq, Nat.reduceEqDiff, ↓reduceIte, Nat.reduceAdd, Nat.reduceSub])
      refine AWL.nil ?_
      refine ⟨(j + 1, _), by dsimp only; omega, by dsimp only; omega, ⟨rfl, rfl, rfl, rfl, rfl, (by rw [hwt, show indK m c = 1 by unfold indK; rw [if_pos (inK_iff.2 ⟨hc5.1.1, flEq_iff.1 hc5.1.2, hc5.2⟩)]]; rfl), rfl, rfl, rfl, trivial⟩, (by first | rfl | trivial), (by first | rfl | trivial)⟩
     ·
      (try simp only [hcS] at hc); have hc5 := hc; skip
      refine AW.skip ?_
      (try simp only [thenE, inBlk, Nat.reduceEqDiff, ↓reduceIte])
      (refine hK _ ?_; clear hK K; (try simp only [nA, Nat.reduceBEq, Nat.reduceEqDiff, ↓reduceIte, Nat.reduceAdd, Nat.reduceSub]))
      refine AW.region ?_
      (first | refine awP (op_addi rfl rfl rfl (by omega)) ?_ | refine awP (op_add rfl rfl rfl rfl) ?_); (try simp only [nA, Nat.reduceBEq, Nat.reduceEqDiff, ↓reduceIte, Nat.reduceAdd, Nat.reduceSub])
      refine awP (op_move rfl rfl) ?_; (try simp only [nA, Nat.reduceBEq, Nat.reduceEqDiff, ↓reduceIte, Nat.reduceAdd, Nat.reduceSub])
      refine AWL.gh (Gh.drop 0) ?_; (try simp only [nA, Nat.reduceBEq, Nat.reduceEqDiff, ↓reduceIte, Nat.reduceAdd, Nat.reduceSub])
      refine AWL.nil ?_
      refine ⟨(j + 1, _), by dsimp only; omega, by dsimp only; omega, ⟨rfl, rfl, rfl, rfl, rfl, (by rw [hwt, show indK m c = 0 by unfold indK; rw [if_neg (fun h => by obtain ⟨a1, a2, a3⟩ := inK_iff.1 h; have a4 := flEq_iff.2 a2; rcases hc5 with (h | h) | h; exact h a1; (rw [a4] at h; cases h); exact h a3)]]; rfl), rfl, rfl, rfl, trivial⟩, (by first | rfl | trivial), (by first | rfl | trivial)⟩
    ·
     (try simp only [hcS] at hc); have hc4 := hc; obtain rfl : j = xs.length := (by omega); rw [List.take_length]; rw [List.take_length] at hw0
     refine AW.exit ?_; (try simp only [thenE, inBlk, Nat.reduceEqDiff, ↓reduceIte])
     clear hK K
     (refine hK _ ?_; clear hK K; (try simp only [nA, Nat.reduceBEq, Nat.reduceEqDiff, ↓reduceIte, Nat.reduceAdd, Nat.reduceSub]))
     (refine AW.seq_k ?_; intro K hK)
     refine AW.region ?_
     refine awP (op_move rfl rfl) ?_; (try simp only [nA, Nat.reduceBEq, Nat.reduceEqDiff, ↓reduceIte, Nat.reduceAdd, Nat.reduceSub])
     refine awP (op_move rfl rfl) ?_; (try simp only [nA, Nat.reduceBEq, Nat.reduceEqDiff, ↓reduceIte, Nat.reduceAdd, Nat.reduceSub])
     (first | refine awP (op_addi rfl rfl rfl (by omega)) ?_ | refine awP (op_add rfl rfl rfl rfl) ?_); (try simp only [nA, Nat.reduceBEq, Nat.reduceEqDiff, ↓reduceIte, Nat.reduceAdd, Nat.reduceSub])
     (first | refine awP (op_subi rfl rfl rfl (by omega)) ?_ | refine awP (op_sub rfl rfl rfl rfl) ?_); (try simp only [nA, Nat.reduceBEq, Nat.reduceEqDiff, ↓reduceIte, Nat.reduceAdd, Nat.reduceSub])
     (first | refine awP (op_quoi rfl rfl rfl (by omega)) ?_ | refine awP (op_quo rfl rfl rfl (by omega) rfl) ?_); (try simp only [nA, Nat.reduceBEq, Nat.reduceEqDiff, ↓reduceIte, Nat.reduceAdd, Nat.reduceSub])
     (first | refine awP (op_neq rfl rfl rfl) ?_ | refine awP (op_sneq rfl rfl rfl) ?_); (try simp only [nA, Nat.reduceBEq, Nat.reduceEqDiff, ↓reduceIte, Nat.reduceAdd, Nat.reduceSub])
     refine AWL.nil ?_
     (refine hK _ ?_; clear hK K; (try simp only [nA, Nat.reduceBEq, Nat.reduceEqDiff, ↓reduceIte, Nat.reduceAdd, Nat.reduceSub]))
     refine AW.cond rfl rfl rfl (fun hc => ?_) (fun hc => ?_)
     ·
      (try simp only [hcS] at hc); have hc6 := hc; skip
      (refine AW.seq_k ?_; intro K hK)
      refine AW.region ?_
      refine awP (op_assign rfl rfl) ?_; (try simp only [nA, Nat.reduceBEq, Nat.reduceEqDiff, ↓reduceIte, Nat.reduceAdd, Nat.reduceSub])
      refine AWL.nil ?_
      (refine hK _ ?_; clear hK K; (try simp only [nA, Nat.reduceBEq, Nat.reduceEqDiff, ↓reduceIte, Nat.reduceAdd, Nat.reduceSub]))
      skip
      refine AW.ret ?_; (try simp only [thenE, inBlk, Nat.reduceEqDiff, ↓reduceIte]); exfalso; omega
     ·
      (try simp only [hcS] at hc); have hc6 := hc; skip
      refine AW.skip ?_
      (try simp only [thenE, inBlk, Nat.reduceEqDiff, ↓reduceIte])
      (refine hK _ ?_; clear hK K; (try simp only [nA, Nat.reduceBEq, Nat.reduceEqDiff, ↓reduceIte, Nat.reduceAdd, Nat.reduceSub]))
      refine AW.region ?_
      (first | refine awP (op_addi rfl rfl rfl (by omega)) ?_ | refine awP (op_add rfl rfl rfl rfl) ?_); (try simp only [nA, Nat.reduceBEq, Nat.reduceEqDiff, ↓reduceIte, Nat.reduceAdd, Nat.reduceSub])
      refine awP (op_move rfl rfl) ?_; (try simp only [nA, Nat.reduceBEq, Nat.reduceEqDiff, ↓reduceIte, Nat.reduceAdd, Nat.reduceSub])
      skip
      refine AWL.nil ?_
      refine ⟨(m + 1, _), by dsimp only; omega, by dsimp only; omega, ⟨rfl, rfl, rfl, trivial⟩, (by first | rfl | trivial), (by first | rfl | trivial)⟩
   ·
    (try simp only [hcS] at hc); have hc3 := hc; skip
    refine AW.exit ?_; (try simp only [thenE, inBlk, Nat.reduceEqDiff, ↓reduceIte])
    clear hK K
    (refine hK _ ?_; clear hK K; (try simp only [nA, Nat.reduceBEq, Nat.reduceEqDiff, ↓reduceIte, Nat.reduceAdd, Nat.reduceSub]))
    (refine AW.seq_k ?_; intro K hK)
    refine AW.region ?_
    refine awJ (OpQ.j (op_callQ (b := true) rfl en19 (C19) (RL.nil) rfl)) ?_; (try simp only [nA, Nat.reduceBEq, Nat.reduceEqDiff, ↓reduceIte, Nat.reduceAdd, Nat.reduceSub])
    refine awP (op_assign rfl rfl) ?_; (try simp only [nA, Nat.reduceBEq, Nat.reduceEqDiff, ↓reduceIte, Nat.reduceAdd, Nat.reduceSub])
    refine AWL.nil ?_
    (refine hK _ ?_; clear hK K; (try simp only [nA, Nat.reduceBEq, Nat.reduceEqDiff, ↓reduceIte, Nat.reduceAdd, Nat.reduceSub]))
    skip
    refine AW.ret ?_; (try simp only [thenE, inBlk, Nat.reduceEqDiff, ↓reduceIte]); exact RQ.of0 rfl (.tmp (Nat.le_of_ble_eq_true rfl) rfl rfl .nil)
end Go.Proofs.Ytbbedhidiffdgaa
