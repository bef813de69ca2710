import Derived.Test.YtbbedhidiffdgaaCv
namespace Go.Proofs.Ytbbedhidiffdgaa
open Go.RowKit
set_option linter.unusedSimpArgs false
set_option linter.unusedVariables false

/-! ### The cart of a plate -/
abbrev clsC (c : Cart) : Int × Flight × Int × Bool := (c.chute, c.flight, c.category, true)
theorem count_one {xs : List Cart} (h : Inv xs) {c d : Cart} {q : Plate} (hc : c ∈ xs) (hd : d ∈ xs) (hqc : q ∈ c.plates) (hqd : q ∈ d.plates) : c = d := by
  have key : ∀ {xs : List Cart}, (∀ q, countV xs q ≤ 1) → c ∈ xs → d ∈ xs → c = d := fun {xs} => by
    induction xs with
    | nil => intro _ h; cases h
    | cons e xs ih =>
      intro hn hc hd
      have h0 := hn q
      rw [countV_cons] at h0
      have hz : ∀ {x : Cart}, x ∈ xs → q ∈ x.plates → 0 < countV xs q := fun hx hq => countV_pos.2 ⟨_, hx, hq⟩
      rcases List.mem_cons.1 hc with h1 | h1 <;> rcases List.mem_cons.1 hd with h2 | h2
      · rw [h1, h2]
      · have h3 := hz h2 hqd; rw [← h1] at h0; have := List.count_pos_iff.2 hqc; omega
      · have h3 := hz h1 hqc; rw [← h2] at h0; have := List.count_pos_iff.2 hqd; omega
      · exact ih (fun q => by have := hn q; rw [countV_cons] at this; omega) h1 h2
  exact key h.cnt hc hd
theorem class_at {xs : List Cart} (h : Inv xs) {c : Cart} {q : Plate} (hc : c ∈ xs) (hq : q ∈ c.plates) : classV xs q = clsC c := by
  have hlt : onN xs q < xs.length := onN_lt.2 ⟨c, hc, hq⟩
  have hm : q ∈ (xs.getD (onN xs q) default).plates := of_decide_eq_true (findIdx_at (f := hasP q) hlt)
  have he := count_one h hc (getD_mem hlt) hq hm
  unfold classV
  rw [if_pos hlt, ← he]
theorem class_no {xs : List Cart} {q : Plate} (h : ∀ c ∈ xs, q ∉ c.plates) : classV xs q = (0, zeroF, 0, false) := by
  unfold classV
  rw [if_neg fun hlt => by obtain ⟨c, hc, hq⟩ := onN_lt.1 hlt; exact h c hc hq]
theorem class_eq {xs ys : List Cart} (h : Inv xs) (h' : Inv ys) {q : Plate} (ha : ∀ c ∈ xs, q ∈ c.plates → ∃ d ∈ ys, q ∈ d.plates ∧ clsC d = clsC c) (hb : ∀ d ∈ ys, q ∈ d.plates → ∃ c ∈ xs, q ∈ c.plates) : classV xs q = classV ys q := by
  by_cases hx : ∃ c ∈ xs, q ∈ c.plates
  · obtain ⟨c, hc, hq⟩ := hx
    obtain ⟨d, hd, hqd, e⟩ := ha c hc hq
    rw [class_at h hc hq, class_at h' hd hqd, e]
  · rw [class_no fun c hc hq => hx ⟨c, hc, hq⟩, class_no fun d hd hq => hx (hb d hd hq)]
theorem mem_set_split {xs : List Cart} {i : Nat} {c e : Cart} (hi : xs[i]? = some c) {x : Cart} (hx : x ∈ xs) : x = c ∨ x ∈ xs.set i e := by
  obtain ⟨j, hj, rfl⟩ := List.getElem_of_mem hx
  by_cases h : i = j
  · subst h; rw [List.getElem?_eq_getElem hj] at hi; injection hi with hi; exact .inl hi
  · refine .inr (List.mem_of_getElem? (i := j) ?_)
    rw [List.getElem?_set_ne h, List.getElem?_eq_getElem hj]
theorem mem_set_self {xs : List Cart} {i : Nat} {c e : Cart} (hi : xs[i]? = some c) : e ∈ xs.set i e := by
  have hl := (List.getElem?_eq_some_iff.1 hi).1
  exact List.mem_of_getElem? (i := i) (by rw [List.getElem?_set_self hl])
theorem set_class {xs : List Cart} {i : Nat} {c e : Cart} (h : Inv xs) (h' : Inv (xs.set i e)) (hi : xs[i]? = some c) (hcl : clsC e = clsC c) {q : Plate} (hq : q ∈ e.plates ↔ q ∈ c.plates) : classV xs q = classV (xs.set i e) q :=
  class_eq h h' (fun x hx hqx => (mem_set_split (e := e) hi hx).elim (fun ex => ⟨e, mem_set_self hi, hq.2 (ex ▸ hqx), by rw [ex]; exact hcl⟩) fun hx => ⟨x, hx, hqx, rfl⟩)
    fun x hx hqx => (List.mem_or_eq_of_mem_set hx).elim (fun hx => ⟨x, hx, hqx⟩) fun ex => ⟨c, mem_i hi, hq.1 (ex ▸ hqx)⟩
theorem put_class {xs : List Cart} {ch cat : Int} {f : Flight} {p q : Plate} (h : (putV xs ch f cat p).2.2 = 0) (hq : q ≠ p) : classV xs q = classV (putV xs ch f cat p).1 q := by
  have h' := put_inv h
  obtain ⟨hI, -, -, -, ⟨i, c, hi, -, -, e⟩ | ⟨-, -, -, e⟩⟩ := putV_cases h
  · rw [e] at h' ⊢
    refine set_class hI h' hi rfl ?_
    show q ∈ c.plates ++ [p] ↔ _
    simp [hq]
  · rw [e] at h' ⊢
    refine class_eq hI h' (fun c hc hqc => ⟨c, List.mem_append_left _ hc, hqc, rfl⟩) fun d hd hqd => ?_
    rcases List.mem_append.1 hd with hd | hd
    · exact ⟨d, hd, hqd⟩
    · rw [List.mem_singleton.1 hd] at hqd
      exact absurd (List.mem_singleton.1 hqd) hq
theorem take_class {xs : List Cart} {p q : Plate} (h : (takeV xs p).2 = 0) (hq : q ≠ p) : classV xs q = classV (takeV xs p).1 q := by
  have h' := take_inv h
  obtain ⟨hI, i, c, hi, -, -, -, e⟩ := takeV_cases h
  rw [e] at h' ⊢
  refine set_class hI h' hi rfl ?_
  show q ∈ c.plates.filter (notP p) ↔ _
  simp [hq]
theorem send_class {xs : List Cart} {n : Int} {q : Plate} (h : (sendV xs n).2 = 0) : classV xs q = classV (sendV xs n).1 q := by
  have h' := send_inv h
  obtain ⟨hI, i, c, hi, -, -, -, e⟩ := sendV_cases h
  rw [e] at h' ⊢
  exact set_class hI h' hi rfl Iff.rfl
theorem join_class {xs : List Cart} {a b : Int} {q : Plate} (h : (joinV xs a b).2 = 0) : classV xs q = classV (joinV xs a b).1 q := by
  have h' := join_inv h
  obtain ⟨hI, i, k, c, d, hi, hk, hne, -, -, -, -, ⟨g1, g2, g3⟩, -, e⟩ := joinV_cases h
  rw [e] at h' ⊢
  have hcl : clsC c = clsC d := by unfold clsC; rw [g1, flEq_iff.1 g2, g3]
  have hik : (xs.set k (catP d c))[i]? = some c := by rw [List.getElem?_set_ne (fun e => hne e.symm)]; exact hi
  have hin : ∀ x ∈ xs.set k (catP d c), x = c ∨ x ∈ (xs.set k (catP d c)).eraseIdx i := fun x hx => by
    obtain ⟨j, hj, rfl⟩ := List.getElem_of_mem hx
    by_cases h : j = i
    · subst h; rw [List.getElem?_eq_getElem hj] at hik; injection hik with hik; exact .inl hik
    · exact .inr (List.mem_eraseIdx_iff_getElem?.2 ⟨j, h, List.getElem?_eq_getElem hj⟩)
  have hcat : catP d c ∈ (xs.set k (catP d c)).eraseIdx i := by
    have hl := (List.getElem?_eq_some_iff.1 hk).1
    exact List.mem_eraseIdx_iff_getElem?.2 ⟨k, fun e => hne e.symm, by rw [List.getElem?_set_self hl]⟩
  refine class_eq hI h' (fun x hx hqx => ?_) fun x hx hqx => ?_
  · rcases mem_set_split (e := catP d c) hk hx with rfl | hx
    · exact ⟨_, hcat, List.mem_append_left _ hqx, rfl⟩
    · rcases hin x hx with rfl | hx
      · exact ⟨_, hcat, List.mem_append_right _ hqx, hcl.symm⟩
      · exact ⟨x, hx, hqx, rfl⟩
  · rcases List.mem_or_eq_of_mem_set (List.mem_of_mem_eraseIdx hx) with hx | rfl
    · exact ⟨x, hx, hqx⟩
    · rcases List.mem_append.1 hqx with h | h
      · exact ⟨d, mem_i hk, h⟩
      · exact ⟨c, mem_i hi, h⟩
abbrev rav (r : List Cart × Int) : List AV := [.ro (r.1.map Cart.av)]
abbrev eav (r : List Cart × Int) : List AV := [.v (.int .i64 r.2)]
theorem rav_flat (ls : List (List Cart × Int)) : ∀ r ∈ ls.map rav, ∀ c ∈ r, flatA c = true := fun r hr c hc => by
  obtain ⟨l, _, rfl⟩ := List.mem_map.1 hr
  simp only [rav, List.mem_cons, List.not_mem_nil, or_false] at hc
  subst hc; rfl
theorem eav_flat (ls : List (List Cart × Int)) : ∀ r ∈ ls.map eav, ∀ c ∈ r, flatA c = true := fun r hr c hc => by
  obtain ⟨l, _, rfl⟩ := List.mem_map.1 hr
  simp only [eav, List.mem_cons, List.not_mem_nil, or_false] at hc
  subst hc; rfl
/-- The four operations of a round. -/
def four (xs : List Cart) (ch cat : Int) (f : Flight) (p : Plate) (n a b : Int) : List (List Cart × Int) := [((putV xs ch f cat p).1, (putV xs ch f cat p).2.2), takeV xs p, sendV xs n, joinV xs a b]
theorem four_ok {xs : List Cart} {ch cat : Int} {f : Flight} {p : Plate} {n a b : Int} {i : Nat} {r : List Cart × Int} (h : (four xs ch cat f p n a b)[i]? = some r) (h0 : r.2 = 0) : Inv r.1 ∧ ∀ q, (q ≠ p ∨ 2 ≤ i) → classV xs q = classV r.1 q := by
  unfold four at h
  rcases i with _ | _ | _ | _ | i
  · simp at h; subst h; exact ⟨put_inv h0, fun q hq => put_class h0 (hq.resolve_right (by omega))⟩
  · simp at h; subst h; exact ⟨take_inv h0, fun q hq => take_class h0 (hq.resolve_right (by omega))⟩
  · simp at h; subst h; exact ⟨send_inv h0, fun q _ => send_class h0⟩
  · simp at h; subst h; exact ⟨join_inv h0, fun q _ => join_class h0⟩
  · simp at h
theorem rav_len (l : List (List Cart × Int)) : ∀ x ∈ l.map rav, x.length = 1 := fun x hx => by
  obtain ⟨p, _, rfl⟩ := List.mem_map.1 hx; rfl
theorem eav_len (l : List (List Cart × Int)) : ∀ x ∈ l.map eav, x.length = 1 := fun x hx => by
  obtain ⟨p, _, rfl⟩ := List.mem_map.1 hx; rfl
set_option maxHeartbeats 8000000 in
theorem C8 {l : List Int} : Fn Try.prog 8 [] [.ro (l.map iv)] [.v (.bool true)] [] := by
  refine Spec.body Try.func8 rfl Try.ntmps8 (by simp) rfl ?_; intro S0 own0 v0 w0
  (refine AW.seq_k ?_; intro K hK)
  refine AW.region ?_
  refine awP (op_assign rfl rfl) ?_; (try simp only [nA, Nat.reduceBEq, Nat.reduceEqDiff, ↓reduceIte, Nat.reduceAdd, Nat.reduceSub])
  refine AWL.nil ?_
  (refine hK _ ?_; clear hK K; (try simp only [nA, Nat.reduceBEq, Nat.reduceEqDiff, ↓reduceIte, Nat.reduceAdd, Nat.reduceSub]))
  (refine AW.seq_k ?_; intro K hK)
  refine AW.region ?_
  refine awP (op_move rfl rfl) ?_; (try simp only [nA, Nat.reduceBEq, Nat.reduceEqDiff, ↓reduceIte, Nat.reduceAdd, Nat.reduceSub])
  refine awJ (op_callB rfl en11 (C11) (RL.cons (by first | exact View.same rfl | exact View.nil | exact View.rof | exact View.src .ro | exact View.src .rof | exact View.src (.sl rfl rfl) | exact View.ptr rfl rfl rfl) (RL.nil))) ?_; (try simp only [nA, Nat.reduceBEq, Nat.reduceEqDiff, ↓reduceIte, Nat.reduceAdd, Nat.reduceSub])
  refine awP (op_assign rfl rfl) ?_; (try simp only [nA, Nat.reduceBEq, Nat.reduceEqDiff, ↓reduceIte, Nat.reduceAdd, Nat.reduceSub])
  refine AWL.nil ?_
  (refine hK _ ?_; clear hK K; (try simp only [nA, Nat.reduceBEq, Nat.reduceEqDiff, ↓reduceIte, Nat.reduceAdd, Nat.reduceSub]))
  (refine AW.seq_k ?_; intro K hK)
  refine AW.region ?_
  refine awP (op_move rfl rfl) ?_; (try simp only [nA, Nat.reduceBEq, Nat.reduceEqDiff, ↓reduceIte, Nat.reduceAdd, Nat.reduceSub])
  refine awJ (op_call1 rfl en12 (C12 (l := (l.take 2000)) (k := 0) (n := 25) (by simp; omega) (by decide)) (by exact rfl) (RL.cons .ptr (RL.cons (.base (by first | exact View.same rfl | exact View.nil | exact View.rof | exact View.src .ro | exact View.src .rof | exact View.src (.sl rfl rfl) | exact View.ptr rfl rfl rfl)) (RL.nil))) (by exact ⟨_, _, _, rfl, rfl, rfl⟩) (by exact rfl) (by exact rfl) (by exact rfl)) ?_; (try simp only [nA, Nat.reduceBEq, Nat.reduceEqDiff, ↓reduceIte, Nat.reduceAdd, Nat.reduceSub])
  refine awP (op_assign rfl rfl) ?_; (try simp only [nA, Nat.reduceBEq, Nat.reduceEqDiff, ↓reduceIte, Nat.reduceAdd, Nat.reduceSub])
  refine AWL.nil ?_
  (refine hK _ ?_; clear hK K; (try simp only [nA, Nat.reduceBEq, Nat.reduceEqDiff, ↓reduceIte, Nat.reduceAdd, Nat.reduceSub]))
  (refine AW.seq_k ?_; intro K hK)
  (refine AW.seq_k ?_; intro K hK)
  refine AW.region ?_
  refine awP (op_assign rfl rfl) ?_; (try simp only [nA, Nat.reduceBEq, Nat.reduceEqDiff, ↓reduceIte, Nat.reduceAdd, Nat.reduceSub])
  refine AWL.nil ?_
  (refine hK _ ?_; clear hK K; (try simp only [nA, Nat.reduceBEq, Nat.reduceEqDiff, ↓reduceIte, Nat.reduceAdd, Nat.reduceSub]))
  refine AW.block ?_
  refine AW.loopI (fun (q : Nat × Nat × List Cart × Nat) => [(3, .ptr 0 1 0 0), (4, .ro (q.2.2.1.map Cart.av)), (5, .v (.int .i64 (q.1 : Nat)))]) (fun q => ⟨[(1, .own 63 [srcRow (l.take 2000) q.2.1])], q.2.2.2⟩) (fun q => q.1 ≤ 12 ∧ Inv q.2.2.1) (fun q => 12 - q.1) (0, (filV (l.take 2000) 0 25).2, (filV (l.take 2000) 0 25).1, 2) ⟨by simp, fil_inv (l.take 2000) 0 25⟩ ⟨rfl, rfl, rfl, trivial⟩ rfl ?_; rintro ⟨i, k, xs, e⟩ ρ ⟨hi, hI⟩; simp only at hi hI; simp only [updL]; (try simp only [nA, Nat.reduceBEq, Nat.reduceEqDiff, ↓reduceIte, Nat.reduceAdd, Nat.reduceSub]); have hbd := inv_bd hI
  (refine AW.seq_k ?_; intro K hK)
  (refine AW.seq_k ?_; intro K hK)
  refine AW.region ?_
  refine awP (op_move rfl rfl) ?_; (try simp only [nA, Nat.reduceBEq, Nat.reduceEqDiff, ↓reduceIte, Nat.reduceAdd, Nat.reduceSub])
  refine awP (op_lss rfl rfl rfl) ?_; (try simp only [nA, Nat.reduceBEq, Nat.reduceEqDiff, ↓reduceIte, Nat.reduceAdd, Nat.reduceSub])
  refine AWL.nil ?_
  (refine hK _ ?_; clear hK K; (try simp only [nA, Nat.reduceBEq, Nat.reduceEqDiff, ↓reduceIte, Nat.reduceAdd, Nat.reduceSub]))
  refine AW.cond rfl rfl rfl (fun hc => ?_) (fun hc => ?_)
  ·
   (try simp only [hcS] at hc); have hc1 := hc; have hlt : i < 12 := (by omega); have hg4 := gmod_bd (x := rawV (l.take 2000) (nx4 (l.take 2000) k)) (n := 6) (by decide); have hg5 := gmod_bd (x := rawV (l.take 2000) (rawN (l.take 2000) (nx4 (l.take 2000) k))) (n := 6) (by decide); have hg6 := gmod_bd (x := rawV (l.take 2000) (rawN (l.take 2000) (rawN (l.take 2000) (nx4 (l.take 2000) k)))) (n := 6) (by decide)
   refine AW.skip ?_
   (refine hK _ ?_; clear hK K; (try simp only [nA, Nat.reduceBEq, Nat.reduceEqDiff, ↓reduceIte, Nat.reduceAdd, Nat.reduceSub]))
   (refine AW.seq_k ?_; intro K hK)
   refine AW.block ?_
   (refine AW.seq_k ?_; intro K hK)
   refine AW.region ?_
   refine awP (op_move rfl rfl) ?_; (try simp only [nA, Nat.reduceBEq, Nat.reduceEqDiff, ↓reduceIte, Nat.reduceAdd, Nat.reduceSub])
   refine awJ (op_call1 rfl en16 (C16 (l := (l.take 2000)) (k := k) (n := 60) (by simp; omega) (by decide)) (by exact rfl) (RL.cons .ptr (RL.cons (.base (by first | exact View.same rfl | exact View.nil | exact View.rof | exact View.src .ro | exact View.src .rof | exact View.src (.sl rfl rfl) | exact View.ptr rfl rfl rfl)) (RL.nil))) (by exact ⟨_, _, _, rfl, rfl, rfl⟩) (by exact rfl) (by exact rfl) (by exact rfl)) ?_; (try simp only [nA, Nat.reduceBEq, Nat.reduceEqDiff, ↓reduceIte, Nat.reduceAdd, Nat.reduceSub])
   refine awJ (op_alloc rfl ze25 rfl) ?_; (try simp only [nA, Nat.reduceBEq, Nat.reduceEqDiff, ↓reduceIte, Nat.reduceAdd, Nat.reduceSub])
   refine awJ (op_store rfl rfl rfl rfl rfl rfl sz25 rfl (Nat.le_of_ble_eq_true rfl) rfl) ?_; (try simp only [nA, Nat.reduceBEq, Nat.reduceEqDiff, ↓reduceIte, Nat.reduceAdd, Nat.reduceSub])
   refine AWL.nil ?_
   (refine hK _ ?_; clear hK K; (try simp only [nA, Nat.reduceBEq, Nat.reduceEqDiff, ↓reduceIte, Nat.reduceAdd, Nat.reduceSub]))
   (refine AW.seq_k ?_; intro K hK)
   refine AW.ad [(1, e, .own 25 [(platesP (gmod (rawV (l.take 2000) k) 60)).av])] mix rfl ?_
   refine adP 0 rfl (fun T' ok => op_move rfl rfl) (by first | exact trivial | exact ⟨rfl, trivial⟩ | exact ⟨rfl, rfl, trivial⟩ | exact ⟨rfl, rfl, rfl, trivial⟩) (by kernel_rfl) (by kernel_rfl) ?_; (try simp only [nA, Nat.reduceBEq, Nat.reduceEqDiff, ↓reduceIte, Nat.reduceAdd, Nat.reduceSub])
   refine adP 1 rfl (fun T' ok => op_move rfl rfl) (by first | exact trivial | exact ⟨rfl, trivial⟩ | exact ⟨rfl, rfl, trivial⟩ | exact ⟨rfl, rfl, rfl, trivial⟩) (by kernel_rfl) (by kernel_rfl) ?_; (try simp only [nA, Nat.reduceBEq, Nat.reduceEqDiff, ↓reduceIte, Nat.reduceAdd, Nat.reduceSub])
   refine adP 3 rfl (fun T' ok => op_move rfl rfl) (by first | exact trivial | exact ⟨rfl, trivial⟩ | exact ⟨rfl, rfl, trivial⟩ | exact ⟨rfl, rfl, rfl, trivial⟩) (by kernel_rfl) (by kernel_rfl) ?_; (try simp only [nA, Nat.reduceBEq, Nat.reduceEqDiff, ↓reduceIte, Nat.reduceAdd, Nat.reduceSub])
   refine adP 6 rfl (fun T' ok => op_move rfl rfl) (by first | exact trivial | exact ⟨rfl, trivial⟩ | exact ⟨rfl, rfl, trivial⟩ | exact ⟨rfl, rfl, rfl, trivial⟩) (by kernel_rfl) (by kernel_rfl) ?_; (try simp only [nA, Nat.reduceBEq, Nat.reduceEqDiff, ↓reduceIte, Nat.reduceAdd, Nat.reduceSub])
   (first | refine adR 8 rfl (fun T' ok => op_load_ptr rfl rfl (by first | exact ok.1 | exact ok.2.1 | exact ok.2.2.1 | exact ok.2.2.2.1) rfl ag25 sz25 (Nat.le_of_ble_eq_true rfl) rfl) (by first | exact trivial | exact ⟨rfl, trivial⟩ | exact ⟨rfl, rfl, trivial⟩ | exact ⟨rfl, rfl, rfl, trivial⟩) (by kernel_rfl) (by kernel_rfl) ?_ | refine adR 8 rfl (fun T' ok => op_load_rop rfl rfl ag25 sz25 (Nat.le_of_ble_eq_true rfl) (by decide) rfl) (by first | exact trivial | exact ⟨rfl, trivial⟩ | exact ⟨rfl, rfl, trivial⟩ | exact ⟨rfl, rfl, rfl, trivial⟩) (by kernel_rfl) (by kernel_rfl) ?_); (try simp only [nA, Nat.reduceBEq, Nat.reduceEqDiff, ↓reduceIte, Nat.reduceAdd, Nat.reduceSub])
   refine adJ 2 rfl (op_call1 rfl en21 (C21 (l := (l.take 2000)) (k := (rawN (l.take 2000) k)) (by simp; omega) (n := 2) (by decide)) (by exact rfl) (RL.cons .ptr (RL.cons (.base (by first | exact View.same rfl | exact View.nil | exact View.rof | exact View.src .ro | exact View.src .rof | exact View.src (.sl rfl rfl) | exact View.ptr rfl rfl rfl)) (RL.nil))) (by exact ⟨_, _, _, rfl, rfl, rfl⟩) (by exact rfl) (by exact rfl) (by exact rfl)) (by kernel_rfl) (by first | exact trivial | exact ⟨rfl, trivial⟩ | exact ⟨rfl, rfl, trivial⟩ | exact ⟨rfl, rfl, rfl, trivial⟩) ?_; (try simp only [nA, Nat.reduceBEq, Nat.reduceEqDiff, ↓reduceIte, Nat.reduceAdd, Nat.reduceSub])
   refine adJ 4 rfl (op_call1 rfl en21 (C21 (l := (l.take 2000)) (k := nx2 (l.take 2000) k) (by simp; omega) (n := 2) (by decide)) (by exact rfl) (RL.cons .ptr (RL.cons (.base (by first | exact View.same rfl | exact View.nil | exact View.rof | exact View.src .ro | exact View.src .rof | exact View.src (.sl rfl rfl) | exact View.ptr rfl rfl rfl)) (RL.nil))) (by exact ⟨_, _, _, rfl, rfl, rfl⟩) (by exact rfl) (by exact rfl) (by exact rfl)) (by kernel_rfl) (by first | exact trivial | exact ⟨rfl, trivial⟩ | exact ⟨rfl, rfl, trivial⟩ | exact ⟨rfl, rfl, rfl, trivial⟩) ?_; (try simp only [nA, Nat.reduceBEq, Nat.reduceEqDiff, ↓reduceIte, Nat.reduceAdd, Nat.reduceSub])
   refine adF 5 rfl (fun T' ok => op_callS rfl en23 (C23g (n := 2) (by decide)) (RL.cons (by first | exact View.same rfl | exact View.nil | exact View.rof | exact View.src .ro | exact View.src .rof | exact View.src (.sl rfl rfl) | exact View.ptr rfl rfl rfl) (RL.nil)) rfl rfl rfl) (by first | exact trivial | exact ⟨rfl, trivial⟩ | exact ⟨rfl, rfl, trivial⟩ | exact ⟨rfl, rfl, rfl, trivial⟩) (by kernel_rfl) (by kernel_rfl) ?_; (try simp only [nA, Nat.reduceBEq, Nat.reduceEqDiff, ↓reduceIte, Nat.reduceAdd, Nat.reduceSub])
   refine adJ 7 rfl (op_call1 rfl en21 (C21 (l := (l.take 2000)) (k := nx3 (l.take 2000) k) (by simp; omega) (n := 2) (by decide)) (by exact rfl) (RL.cons .ptr (RL.cons (.base (by first | exact View.same rfl | exact View.nil | exact View.rof | exact View.src .ro | exact View.src .rof | exact View.src (.sl rfl rfl) | exact View.ptr rfl rfl rfl)) (RL.nil))) (by exact ⟨_, _, _, rfl, rfl, rfl⟩) (by exact rfl) (by exact rfl) (by exact rfl)) (by kernel_rfl) (by first | exact trivial | exact ⟨rfl, trivial⟩ | exact ⟨rfl, rfl, trivial⟩ | exact ⟨rfl, rfl, rfl, trivial⟩) ?_; (try simp only [nA, Nat.reduceBEq, Nat.reduceEqDiff, ↓reduceIte, Nat.reduceAdd, Nat.reduceSub])
   refine adF 9 rfl (fun T' ok => op_callS rfl en22 (C22 (xs := xs) (ch := (gmod (rawV (l.take 2000) (rawN (l.take 2000) k)) 2)) (f := (flightN (gmod (rawV (l.take 2000) (nx2 (l.take 2000) k)) 2))) (cat := (gmod (rawV (l.take 2000) (nx3 (l.take 2000) k)) 2)) (p := (platesP (gmod (rawV (l.take 2000) k) 60))) hbd.1 hbd.2) (RL.cons (by first | exact View.same rfl | exact View.nil | exact View.rof | exact View.src .ro | exact View.src .rof | exact View.src (.sl rfl rfl) | exact View.ptr rfl rfl rfl) (RL.cons (by first | exact View.same rfl | exact View.nil | exact View.rof | exact View.src .ro | exact View.src .rof | exact View.src (.sl rfl rfl) | exact View.ptr rfl rfl rfl) (RL.cons (by first | exact View.same rfl | exact View.nil | exact View.rof | exact View.src .ro | exact View.src .rof | exact View.src (.sl rfl rfl) | exact View.ptr rfl rfl rfl) (RL.cons (by first | exact View.same rfl | exact View.nil | exact View.rof | exact View.src .ro | exact View.src .rof | exact View.src (.sl rfl rfl) | exact View.ptr rfl rfl rfl) (RL.cons (by first | exact View.same rfl | exact View.nil | exact View.rof | exact View.src .ro | exact View.src .rof | exact View.src (.sl rfl rfl) | exact View.ptr rfl rfl rfl) (RL.nil)))))) rfl rfl rfl) (by first | exact trivial | exact ⟨rfl, trivial⟩ | exact ⟨rfl, rfl, trivial⟩ | exact ⟨rfl, rfl, rfl, trivial⟩) (by kernel_rfl) (by kernel_rfl) ?_; (try simp only [nA, Nat.reduceBEq, Nat.reduceEqDiff, ↓reduceIte, Nat.reduceAdd, Nat.reduceSub])
   refine adP 10 rfl (fun T' ok => op_move rfl rfl) (by first | exact trivial | exact ⟨rfl, trivial⟩ | exact ⟨rfl, rfl, trivial⟩ | exact ⟨rfl, rfl, rfl, trivial⟩) (by kernel_rfl) (by kernel_rfl) ?_; (try simp only [nA, Nat.reduceBEq, Nat.reduceEqDiff, ↓reduceIte, Nat.reduceAdd, Nat.reduceSub])
   refine adP 11 rfl (fun T' ok => op_extract rfl rfl rfl) (by first | exact trivial | exact ⟨rfl, trivial⟩ | exact ⟨rfl, rfl, trivial⟩ | exact ⟨rfl, rfl, rfl, trivial⟩) (by kernel_rfl) (by kernel_rfl) ?_; (try simp only [nA, Nat.reduceBEq, Nat.reduceEqDiff, ↓reduceIte, Nat.reduceAdd, Nat.reduceSub])
   refine adP 12 rfl (fun T' ok => op_extract rfl rfl rfl) (by first | exact trivial | exact ⟨rfl, trivial⟩ | exact ⟨rfl, rfl, trivial⟩ | exact ⟨rfl, rfl, rfl, trivial⟩) (by kernel_rfl) (by kernel_rfl) ?_; (try simp only [nA, Nat.reduceBEq, Nat.reduceEqDiff, ↓reduceIte, Nat.reduceAdd, Nat.reduceSub])
   refine adP 13 rfl (fun T' ok => op_extract rfl rfl rfl) (by first | exact trivial | exact ⟨rfl, trivial⟩ | exact ⟨rfl, rfl, trivial⟩ | exact ⟨rfl, rfl, rfl, trivial⟩) (by kernel_rfl) (by kernel_rfl) ?_; (try simp only [nA, Nat.reduceBEq, Nat.reduceEqDiff, ↓reduceIte, Nat.reduceAdd, Nat.reduceSub])
   refine adP 14 rfl (fun T' ok => op_assign rfl rfl) (by first | exact trivial | exact ⟨rfl, trivial⟩ | exact ⟨rfl, rfl, trivial⟩ | exact ⟨rfl, rfl, rfl, trivial⟩) (by kernel_rfl) (by kernel_rfl) ?_; (try simp only [nA, Nat.reduceBEq, Nat.reduceEqDiff, ↓reduceIte, Nat.reduceAdd, Nat.reduceSub])
   refine adP 15 rfl (fun T' ok => op_assign rfl rfl) (by first | exact trivial | exact ⟨rfl, trivial⟩ | exact ⟨rfl, rfl, trivial⟩ | exact ⟨rfl, rfl, rfl, trivial⟩) (by kernel_rfl) (by kernel_rfl) ?_; (try simp only [nA, Nat.reduceBEq, Nat.reduceEqDiff, ↓reduceIte, Nat.reduceAdd, Nat.reduceSub])
   refine adP 16 rfl (fun T' ok => op_assign rfl rfl) (by first | exact trivial | exact ⟨rfl, trivial⟩ | exact ⟨rfl, rfl, trivial⟩ | exact ⟨rfl, rfl, rfl, trivial⟩) (by kernel_rfl) (by kernel_rfl) ?_; (try simp only [nA, Nat.reduceBEq, Nat.reduceEqDiff, ↓reduceIte, Nat.reduceAdd, Nat.reduceSub])
   refine adDone (by kernel_rfl) ?_
   (refine hK _ ?_; clear hK K; (try simp only [nA, Nat.reduceBEq, Nat.reduceEqDiff, ↓reduceIte, Nat.reduceAdd, Nat.reduceSub]))
   (refine AW.seq_k ?_; intro K hK)
   refine AW.region ?_
   refine awP (op_move rfl rfl) ?_; (try simp only [nA, Nat.reduceBEq, Nat.reduceEqDiff, ↓reduceIte, Nat.reduceAdd, Nat.reduceSub])
   (first | refine awR (op_load_ptr rfl rfl rfl rfl ag25 sz25 (Nat.le_of_ble_eq_true rfl) rfl) ?_ | refine awR (op_load_rop rfl rfl ag25 sz25 (Nat.le_of_ble_eq_true rfl) (by decide) rfl) ?_); (try simp only [nA, Nat.reduceBEq, Nat.reduceEqDiff, ↓reduceIte, Nat.reduceAdd, Nat.reduceSub])
   refine awJ (op_call (b := false) rfl en25 (C25 (xs := xs) (p := (platesP (gmod (rawV (l.take 2000) k) 60))) hbd.1 hbd.2) (RL.cons (by first | exact View.same rfl | exact View.nil | exact View.rof | exact View.src .ro | exact View.src .rof | exact View.src (.sl rfl rfl) | exact View.ptr rfl rfl rfl) (RL.cons (by first | exact View.same rfl | exact View.nil | exact View.rof | exact View.src .ro | exact View.src .rof | exact View.src (.sl rfl rfl) | exact View.ptr rfl rfl rfl) (RL.nil))) rfl (fun h => by cases h) rfl rfl) ?_; (try simp only [nA, Nat.reduceBEq, Nat.reduceEqDiff, ↓reduceIte, Nat.reduceAdd, Nat.reduceSub])
   refine awP (op_move rfl rfl) ?_; (try simp only [nA, Nat.reduceBEq, Nat.reduceEqDiff, ↓reduceIte, Nat.reduceAdd, Nat.reduceSub])
   refine awP (op_extract rfl rfl rfl) ?_; (try simp only [nA, Nat.reduceBEq, Nat.reduceEqDiff, ↓reduceIte, Nat.reduceAdd, Nat.reduceSub])
   refine awP (op_extract rfl rfl rfl) ?_; (try simp only [nA, Nat.reduceBEq, Nat.reduceEqDiff, ↓reduceIte, Nat.reduceAdd, Nat.reduceSub])
   refine awP (op_assign rfl rfl) ?_; (try simp only [nA, Nat.reduceBEq, Nat.reduceEqDiff, ↓reduceIte, Nat.reduceAdd, Nat.reduceSub])
   refine awP (op_assign rfl rfl) ?_; (try simp only [nA, Nat.reduceBEq, Nat.reduceEqDiff, ↓reduceIte, Nat.reduceAdd, Nat.reduceSub])
   refine AWL.nil ?_
   (refine hK _ ?_; clear hK K; (try simp only [nA, Nat.reduceBEq, Nat.reduceEqDiff, ↓reduceIte, Nat.reduceAdd, Nat.reduceSub]))
   (refine AW.seq_k ?_; intro K hK)
   refine AW.region ?_
   refine awP (op_move rfl rfl) ?_; (try simp only [nA, Nat.reduceBEq, Nat.reduceEqDiff, ↓reduceIte, Nat.reduceAdd, Nat.reduceSub])
   refine awP (op_move rfl rfl) ?_; (try simp only [nA, Nat.reduceBEq, Nat.reduceEqDiff, ↓reduceIte, Nat.reduceAdd, Nat.reduceSub])
   refine awJ (op_call1 rfl en21 (C21 (l := (l.take 2000)) (k := (nx4 (l.take 2000) k)) (by simp; omega) (n := 6) (by decide)) (by exact rfl) (RL.cons .ptr (RL.cons (.base (by first | exact View.same rfl | exact View.nil | exact View.rof | exact View.src .ro | exact View.src .rof | exact View.src (.sl rfl rfl) | exact View.ptr rfl rfl rfl)) (RL.nil))) (by exact ⟨_, _, _, rfl, rfl, rfl⟩) (by exact rfl) (by exact rfl) (by exact rfl)) ?_; (try simp only [nA, Nat.reduceBEq, Nat.reduceEqDiff, ↓reduceIte, Nat.reduceAdd, Nat.reduceSub])
   (first | refine awP (op_addi rfl rfl rfl (by omega)) ?_ | refine awP (op_add rfl rfl rfl rfl) ?_); (try simp only [nA, Nat.reduceBEq, Nat.reduceEqDiff, ↓reduceIte, Nat.reduceAdd, Nat.reduceSub])
   refine awJ (op_call (b := false) rfl en30 (C30 (xs := xs) (n := (1 + gmod (rawV (l.take 2000) (nx4 (l.take 2000) k)) 6)) hbd.1 hbd.2) (RL.cons (by first | exact View.same rfl | exact View.nil | exact View.rof | exact View.src .ro | exact View.src .rof | exact View.src (.sl rfl rfl) | exact View.ptr rfl rfl rfl) (RL.cons (by first | exact View.same rfl | exact View.nil | exact View.rof | exact View.src .ro | exact View.src .rof | exact View.src (.sl rfl rfl) | exact View.ptr rfl rfl rfl) (RL.nil))) rfl (fun h => by cases h) rfl rfl) ?_; (try simp only [nA, Nat.reduceBEq, Nat.reduceEqDiff, ↓reduceIte, Nat.reduceAdd, Nat.reduceSub])
   refine awP (op_move rfl rfl) ?_; (try simp only [nA, Nat.reduceBEq, Nat.reduceEqDiff, ↓reduceIte, Nat.reduceAdd, Nat.reduceSub])
   refine awP (op_extract rfl rfl rfl) ?_; (try simp only [nA, Nat.reduceBEq, Nat.reduceEqDiff, ↓reduceIte, Nat.reduceAdd, Nat.reduceSub])
   refine awP (op_extract rfl rfl rfl) ?_; (try simp only [nA, Nat.reduceBEq, Nat.reduceEqDiff, ↓reduceIte, Nat.reduceAdd, Nat.reduceSub])
   refine awP (op_assign rfl rfl) ?_; (try simp only [nA, Nat.reduceBEq, Nat.reduceEqDiff, ↓reduceIte, Nat.reduceAdd, Nat.reduceSub])
   refine awP (op_assign rfl rfl) ?_; (try simp only [nA, Nat.reduceBEq, Nat.reduceEqDiff, ↓reduceIte, Nat.reduceAdd, Nat.reduceSub])
   refine AWL.nil ?_
   (refine hK _ ?_; clear hK K; (try simp only [nA, Nat.reduceBEq, Nat.reduceEqDiff, ↓reduceIte, Nat.reduceAdd, Nat.reduceSub]))
   (refine AW.seq_k ?_; intro K hK)
   refine AW.region ?_
   refine awP (op_move rfl rfl) ?_; (try simp only [nA, Nat.reduceBEq, Nat.reduceEqDiff, ↓reduceIte, Nat.reduceAdd, Nat.reduceSub])
   refine awP (op_move rfl rfl) ?_; (try simp only [nA, Nat.reduceBEq, Nat.reduceEqDiff, ↓reduceIte, Nat.reduceAdd, Nat.reduceSub])
   refine awJ (op_call1 rfl en21 (C21 (l := (l.take 2000)) (k := (rawN (l.take 2000) (nx4 (l.take 2000) k))) (by simp; omega) (n := 6) (by decide)) (by exact rfl) (RL.cons .ptr (RL.cons (.base (by first | exact View.same rfl | exact View.nil | exact View.rof | exact View.src .ro | exact View.src .rof | exact View.src (.sl rfl rfl) | exact View.ptr rfl rfl rfl)) (RL.nil))) (by exact ⟨_, _, _, rfl, rfl, rfl⟩) (by exact rfl) (by exact rfl) (by exact rfl)) ?_; (try simp only [nA, Nat.reduceBEq, Nat.reduceEqDiff, ↓reduceIte, Nat.reduceAdd, Nat.reduceSub])
   (first | refine awP (op_addi rfl rfl rfl (by omega)) ?_ | refine awP (op_add rfl rfl rfl rfl) ?_); (try simp only [nA, Nat.reduceBEq, Nat.reduceEqDiff, ↓reduceIte, Nat.reduceAdd, Nat.reduceSub])
   refine awP (op_move rfl rfl) ?_; (try simp only [nA, Nat.reduceBEq, Nat.reduceEqDiff, ↓reduceIte, Nat.reduceAdd, Nat.reduceSub])
   refine awJ (op_call1 rfl en21 (C21 (l := (l.take 2000)) (k := (rawN (l.take 2000) (rawN (l.take 2000) (nx4 (l.take 2000) k)))) (by simp; omega) (n := 6) (by decide)) (by exact rfl) (RL.cons .ptr (RL.cons (.base (by first | exact View.same rfl | exact View.nil | exact View.rof | exact View.src .ro | exact View.src .rof | exact View.src (.sl rfl rfl) | exact View.ptr rfl rfl rfl)) (RL.nil))) (by exact ⟨_, _, _, rfl, rfl, rfl⟩) (by exact rfl) (by exact rfl) (by exact rfl)) ?_; (try simp only [nA, Nat.reduceBEq, Nat.reduceEqDiff, ↓reduceIte, Nat.reduceAdd, Nat.reduceSub])
   (first | refine awP (op_addi rfl rfl rfl (by omega)) ?_ | refine awP (op_add rfl rfl rfl rfl) ?_); (try simp only [nA, Nat.reduceBEq, Nat.reduceEqDiff, ↓reduceIte, Nat.reduceAdd, Nat.reduceSub])
   refine awJ (op_call (b := false) rfl en32 (C32 (xs := xs) (a := (1 + gmod (rawV (l.take 2000) (rawN (l.take 2000) (nx4 (l.take 2000) k))) 6)) (b := (1 + gmod (rawV (l.take 2000) (rawN (l.take 2000) (rawN (l.take 2000) (nx4 (l.take 2000) k)))) 6)) hbd.1 hbd.2) (RL.cons (by first | exact View.same rfl | exact View.nil | exact View.rof | exact View.src .ro | exact View.src .rof | exact View.src (.sl rfl rfl) | exact View.ptr rfl rfl rfl) (RL.cons (by first | exact View.same rfl | exact View.nil | exact View.rof | exact View.src .ro | exact View.src .rof | exact View.src (.sl rfl rfl) | exact View.ptr rfl rfl rfl) (RL.cons (by first | exact View.same rfl | exact View.nil | exact View.rof | exact View.src .ro | exact View.src .rof | exact View.src (.sl rfl rfl) | exact View.ptr rfl rfl rfl) (RL.nil)))) rfl (fun h => by cases h) rfl rfl) ?_; (try simp only [nA, Nat.reduceBEq, Nat.reduceEqDiff, ↓reduceIte, Nat.reduceAdd, Nat.reduceSub])
   refine awP (op_move rfl rfl) ?_; (try simp only [nA, Nat.reduceBEq, Nat.reduceEqDiff, ↓reduceIte, Nat.reduceAdd, Nat.reduceSub])
   refine awP (op_extract rfl rfl rfl) ?_; (try simp only [nA, Nat.reduceBEq, Nat.reduceEqDiff, ↓reduceIte, Nat.reduceAdd, Nat.reduceSub])
   refine awP (op_extract rfl rfl rfl) ?_; (try simp only [nA, Nat.reduceBEq, Nat.reduceEqDiff, ↓reduceIte, Nat.reduceAdd, Nat.reduceSub])
   refine awP (op_assign rfl rfl) ?_; (try simp only [nA, Nat.reduceBEq, Nat.reduceEqDiff, ↓reduceIte, Nat.reduceAdd, Nat.reduceSub])
   refine awP (op_assign rfl rfl) ?_; (try simp only [nA, Nat.reduceBEq, Nat.reduceEqDiff, ↓reduceIte, Nat.reduceAdd, Nat.reduceSub])
   refine AWL.nil ?_
   (refine hK _ ?_; clear hK K; (try simp only [nA, Nat.reduceBEq, Nat.reduceEqDiff, ↓reduceIte, Nat.reduceAdd, Nat.reduceSub]))
   (refine AW.seq_k ?_; intro K hK)
   (refine AW.seq_k ?_; intro K hK)
   refine AW.region ?_
   refine awP (op_move rfl rfl) ?_; (try simp only [nA, Nat.reduceBEq, Nat.reduceEqDiff, ↓reduceIte, Nat.reduceAdd, Nat.reduceSub])
   refine awP (op_move rfl rfl) ?_; (try simp only [nA, Nat.reduceBEq, Nat.reduceEqDiff, ↓reduceIte, Nat.reduceAdd, Nat.reduceSub])
   refine awP (op_move rfl rfl) ?_; (try simp only [nA, Nat.reduceBEq, Nat.reduceEqDiff, ↓reduceIte, Nat.reduceAdd, Nat.reduceSub])
   refine awP (op_move rfl rfl) ?_; (try simp only [nA, Nat.reduceBEq, Nat.reduceEqDiff, ↓reduceIte, Nat.reduceAdd, Nat.reduceSub])
   refine awJ (OpJ.frz (op_buildSlice rfl [(0, rav ((putV xs (gmod (rawV (l.take 2000) (rawN (l.take 2000) k)) 2) (flightN (gmod (rawV (l.take 2000) (nx2 (l.take 2000) k)) 2)) (gmod (rawV (l.take 2000) (nx3 (l.take 2000) k)) 2) (platesP (gmod (rawV (l.take 2000) k) 60))).1, (putV xs (gmod (rawV (l.take 2000) (rawN (l.take 2000) k)) 2) (flightN (gmod (rawV (l.take 2000) (nx2 (l.take 2000) k)) 2)) (gmod (rawV (l.take 2000) (nx3 (l.take 2000) k)) 2) (platesP (gmod (rawV (l.take 2000) k) 60))).2.2)), (1, rav (takeV xs (platesP (gmod (rawV (l.take 2000) k) 60)))), (2, rav (sendV xs (1 + gmod (rawV (l.take 2000) (nx4 (l.take 2000) k)) 6))), (3, rav (joinV xs (1 + gmod (rawV (l.take 2000) (rawN (l.take 2000) (nx4 (l.take 2000) k))) 6) (1 + gmod (rawV (l.take 2000) (rawN (l.take 2000) (rawN (l.take 2000) (nx4 (l.take 2000) k)))) 6)))] ((four xs (gmod (rawV (l.take 2000) (rawN (l.take 2000) k)) 2) (gmod (rawV (l.take 2000) (nx3 (l.take 2000) k)) 2) (flightN (gmod (rawV (l.take 2000) (nx2 (l.take 2000) k)) 2)) (platesP (gmod (rawV (l.take 2000) k) 60)) (1 + gmod (rawV (l.take 2000) (nx4 (l.take 2000) k)) 6) (1 + gmod (rawV (l.take 2000) (rawN (l.take 2000) (nx4 (l.take 2000) k))) 6) (1 + gmod (rawV (l.take 2000) (rawN (l.take 2000) (rawN (l.take 2000) (nx4 (l.take 2000) k)))) 6)).map rav) Try.underlying31 ze22 rfl (by simp [four]) rfl (rav_len _) rfl (Nat.le_of_ble_eq_true rfl) (by simp [maxLen, four])) (rav_flat (four xs (gmod (rawV (l.take 2000) (rawN (l.take 2000) k)) 2) (gmod (rawV (l.take 2000) (nx3 (l.take 2000) k)) 2) (flightN (gmod (rawV (l.take 2000) (nx2 (l.take 2000) k)) 2)) (platesP (gmod (rawV (l.take 2000) k) 60)) (1 + gmod (rawV (l.take 2000) (nx4 (l.take 2000) k)) 6) (1 + gmod (rawV (l.take 2000) (rawN (l.take 2000) (nx4 (l.take 2000) k))) 6) (1 + gmod (rawV (l.take 2000) (rawN (l.take 2000) (rawN (l.take 2000) (nx4 (l.take 2000) k)))) 6))) rfl) ?_; (try simp only [nA, Nat.reduceBEq, Nat.reduceEqDiff, ↓reduceIte, Nat.reduceAdd, Nat.reduceSub]); skip; (try simp only [nA, Nat.reduceBEq, Nat.reduceEqDiff, ↓reduceIte, Nat.reduceAdd, Nat.reduceSub])
   (first | refine awP (op_len_ro rfl rfl Try.underlying31 (by first | exact .inr (.inl ⟨_, rfl, rfl⟩) | exact .inl rfl | exact .inr (.inr (.inl ⟨_, rfl, rfl⟩)) | exact .inr (.inr (.inr ⟨rfl, rfl⟩)))) ?_ | refine awP (op_len_sl rfl rfl rfl Try.underlying31) ?_ | refine awP (op_len_str rfl rfl Try.underlying31) ?_); (try simp only [nA, Nat.reduceBEq, Nat.reduceEqDiff, ↓reduceIte, Nat.reduceAdd, Nat.reduceSub])
   refine awP (op_move rfl rfl) ?_; (try simp only [nA, Nat.reduceBEq, Nat.reduceEqDiff, ↓reduceIte, Nat.reduceAdd, Nat.reduceSub])
   refine AWL.nil ?_
   (refine hK _ ?_; clear hK K; (try simp only [nA, Nat.reduceBEq, Nat.reduceEqDiff, ↓reduceIte, Nat.reduceAdd, Nat.reduceSub]))
   refine AW.block ?_
   obtain ⟨fo, hfo⟩ : ∃ fo, fo = (four xs (gmod (rawV (l.take 2000) (rawN (l.take 2000) k)) 2) (gmod (rawV (l.take 2000) (nx3 (l.take 2000) k)) 2) (flightN (gmod (rawV (l.take 2000) (nx2 (l.take 2000) k)) 2)) (platesP (gmod (rawV (l.take 2000) k) 60)) (1 + gmod (rawV (l.take 2000) (nx4 (l.take 2000) k)) 6) (1 + gmod (rawV (l.take 2000) (rawN (l.take 2000) (nx4 (l.take 2000) k))) 6) (1 + gmod (rawV (l.take 2000) (rawN (l.take 2000) (rawN (l.take 2000) (nx4 (l.take 2000) k)))) 6)) := ⟨_, rfl⟩; have hfl : fo.length = 4 := (by rw [hfo]; rfl); have hok : ∀ (i : Nat) r, fo[i]? = some r → r.2 = 0 → Inv r.1 ∧ ∀ q, (q ≠ (platesP (gmod (rawV (l.take 2000) k) 60)) ∨ 2 ≤ i) → classV xs q = classV r.1 q := (fun i r h h0 => four_ok (by rw [← hfo]; exact h) h0); refine AW.loopI (fun (q : Nat × Nat) => [(3, .ptr 0 1 0 0), (4, .ro (xs.map Cart.av)), (5, .v (.int .i64 (i : Nat))), (6, .ptr 1 e 0 0), (7, .ro ((putV xs (gmod (rawV (l.take 2000) (rawN (l.take 2000) k)) 2) (flightN (gmod (rawV (l.take 2000) (nx2 (l.take 2000) k)) 2)) (gmod (rawV (l.take 2000) (nx3 (l.take 2000) k)) 2) (platesP (gmod (rawV (l.take 2000) k) 60))).1.map Cart.av)), (9, .v (.int .i64 (putV xs (gmod (rawV (l.take 2000) (rawN (l.take 2000) k)) 2) (flightN (gmod (rawV (l.take 2000) (nx2 (l.take 2000) k)) 2)) (gmod (rawV (l.take 2000) (nx3 (l.take 2000) k)) 2) (platesP (gmod (rawV (l.take 2000) k) 60))).2.2)), (11, .v (.int .i64 (takeV xs (platesP (gmod (rawV (l.take 2000) k) 60))).2)), (13, .v (.int .i64 (sendV xs (1 + gmod (rawV (l.take 2000) (nx4 (l.take 2000) k)) 6)).2)), (15, .v (.int .i64 (joinV xs (1 + gmod (rawV (l.take 2000) (rawN (l.take 2000) (nx4 (l.take 2000) k))) 6) (1 + gmod (rawV (l.take 2000) (rawN (l.take 2000) (rawN (l.take 2000) (nx4 (l.take 2000) k)))) 6)).2)), (81, .ro (fo.map rav)), (82, .v (.int .i64 (4 : Nat))), (83, .v (.int .i64 (q.1 : Nat)))]) (fun q => ⟨[(1, .own 63 [srcRow (l.take 2000) (rawN (l.take 2000) (rawN (l.take 2000) (rawN (l.take 2000) (nx4 (l.take 2000) k))))]), (e, .own 25 [(platesP (gmod (rawV (l.take 2000) k) 60)).av])], q.2⟩) (fun q => q.1 ≤ 4) (fun q => 4 - q.1) (0, _) (by simp) ⟨rfl, rfl, rfl, rfl, rfl, rfl, rfl, rfl, rfl, by rw [hfo]; rfl, rfl, rfl, trivial⟩ rfl ?_; rintro ⟨m, e2⟩ ρ hm; simp only at hm; simp only [updL]; (try simp only [nA, Nat.reduceBEq, Nat.reduceEqDiff, ↓reduceIte, Nat.reduceAdd, Nat.reduceSub])
   (refine AW.seq_k ?_; intro K hK)
   refine AW.region ?_
   refine awP (op_lss rfl rfl rfl) ?_; (try simp only [nA, Nat.reduceBEq, Nat.reduceEqDiff, ↓reduceIte, Nat.reduceAdd, Nat.reduceSub])
   refine AWL.nil ?_
   (refine hK _ ?_; clear hK K; (try simp only [nA, Nat.reduceBEq, Nat.reduceEqDiff, ↓reduceIte, Nat.reduceAdd, Nat.reduceSub]))
   (refine AW.seq_k ?_; intro K hK)
   refine AW.cond rfl rfl rfl (fun hc => ?_) (fun hc => ?_)
   ·
    (try simp only [hcS] at hc); have hc2 := hc; have hml : m < fo.length := (by omega); obtain ⟨r, hrm⟩ : ∃ r, fo[m]? = some r := ⟨fo[m], List.getElem?_eq_getElem hml⟩
    refine AW.skip ?_
    (refine hK _ ?_; clear hK K; (try simp only [nA, Nat.reduceBEq, Nat.reduceEqDiff, ↓reduceIte, Nat.reduceAdd, Nat.reduceSub]))
    (refine AW.seq_k ?_; intro K hK)
    refine AW.block ?_
    (refine AW.seq_k ?_; intro K hK)
    refine AW.region ?_
    refine awP (op_move rfl rfl) ?_; (try simp only [nA, Nat.reduceBEq, Nat.reduceEqDiff, ↓reduceIte, Nat.reduceAdd, Nat.reduceSub])
    (first | refine awP (op_ia_ro m rfl (.inl rfl) rfl Try.underlying31 rfl (get_of hrm) (by exact sz22) (Nat.le_of_ble_eq_true rfl)) ?_ | refine awP (op_ia_sl _ _ rfl rfl rfl rfl Try.underlying31 rfl (by omega) (by exact sz22) rfl) ?_); (try simp only [nA, Nat.reduceBEq, Nat.reduceEqDiff, ↓reduceIte, Nat.reduceAdd, Nat.reduceSub])
    (first | refine awR (op_load_ptr1 rfl rfl rfl rfl ag22 rfl rfl) ?_ | refine awR (op_load_rop1 rfl rfl ag22) ?_); (try simp only [nA, Nat.reduceBEq, Nat.reduceEqDiff, ↓reduceIte, Nat.reduceAdd, Nat.reduceSub])
    refine awP (op_assign rfl rfl) ?_; (try simp only [nA, Nat.reduceBEq, Nat.reduceEqDiff, ↓reduceIte, Nat.reduceAdd, Nat.reduceSub])
    refine awP (op_assign rfl rfl) ?_; (try simp only [nA, Nat.reduceBEq, Nat.reduceEqDiff, ↓reduceIte, Nat.reduceAdd, Nat.reduceSub])
    refine AWL.nil ?_
    (refine hK _ ?_; clear hK K; (try simp only [nA, Nat.reduceBEq, Nat.reduceEqDiff, ↓reduceIte, Nat.reduceAdd, Nat.reduceSub]))
    (refine AW.seq_k ?_; intro K hK)
    (refine AW.seq_k ?_; intro K hK)
    refine AW.region ?_
    refine awP (op_move rfl rfl) ?_; (try simp only [nA, Nat.reduceBEq, Nat.reduceEqDiff, ↓reduceIte, Nat.reduceAdd, Nat.reduceSub])
    refine awP (op_move rfl rfl) ?_; (try simp only [nA, Nat.reduceBEq, Nat.reduceEqDiff, ↓reduceIte, Nat.reduceAdd, Nat.reduceSub])
    refine awP (op_move rfl rfl) ?_; (try simp only [nA, Nat.reduceBEq, Nat.reduceEqDiff, ↓reduceIte, Nat.reduceAdd, Nat.reduceSub])
    refine awP (op_move rfl rfl) ?_; (try simp only [nA, Nat.reduceBEq, Nat.reduceEqDiff, ↓reduceIte, Nat.reduceAdd, Nat.reduceSub])
    refine awJ (OpJ.frz (op_buildSlice rfl [(0, eav ((putV xs (gmod (rawV (l.take 2000) (rawN (l.take 2000) k)) 2) (flightN (gmod (rawV (l.take 2000) (nx2 (l.take 2000) k)) 2)) (gmod (rawV (l.take 2000) (nx3 (l.take 2000) k)) 2) (platesP (gmod (rawV (l.take 2000) k) 60))).1, (putV xs (gmod (rawV (l.take 2000) (rawN (l.take 2000) k)) 2) (flightN (gmod (rawV (l.take 2000) (nx2 (l.take 2000) k)) 2)) (gmod (rawV (l.take 2000) (nx3 (l.take 2000) k)) 2) (platesP (gmod (rawV (l.take 2000) k) 60))).2.2)), (1, eav (takeV xs (platesP (gmod (rawV (l.take 2000) k) 60)))), (2, eav (sendV xs (1 + gmod (rawV (l.take 2000) (nx4 (l.take 2000) k)) 6))), (3, eav (joinV xs (1 + gmod (rawV (l.take 2000) (rawN (l.take 2000) (nx4 (l.take 2000) k))) 6) (1 + gmod (rawV (l.take 2000) (rawN (l.take 2000) (rawN (l.take 2000) (nx4 (l.take 2000) k)))) 6)))] (fo.map eav) Try.underlying58 ze32 rfl (by simp) (by rw [hfo]; rfl) (eav_len _) (by rw [hfo]; rfl) (Nat.le_of_ble_eq_true rfl) (by simp [maxLen])) (eav_flat fo) (by rw [hfo]; rfl)) ?_; (try simp only [nA, Nat.reduceBEq, Nat.reduceEqDiff, ↓reduceIte, Nat.reduceAdd, Nat.reduceSub]); skip; (try simp only [nA, Nat.reduceBEq, Nat.reduceEqDiff, ↓reduceIte, Nat.reduceAdd, Nat.reduceSub])
    refine awP (op_move rfl rfl) ?_; (try simp only [nA, Nat.reduceBEq, Nat.reduceEqDiff, ↓reduceIte, Nat.reduceAdd, Nat.reduceSub])
    (first | refine awP (op_ia_ro m rfl (.inl rfl) rfl Try.underlying58 rfl (get_of hrm) (by exact sz32) (Nat.le_of_ble_eq_true rfl)) ?_ | refine awP (op_ia_sl _ _ rfl rfl rfl rfl Try.underlying58 rfl (by omega) (by exact sz32) rfl) ?_); (try simp only [nA, Nat.reduceBEq, Nat.reduceEqDiff, ↓reduceIte, Nat.reduceAdd, Nat.reduceSub])
    (first | refine awR (op_load_ptr1 rfl rfl rfl rfl ag32 rfl rfl) ?_ | refine awR (op_load_rop1 rfl rfl ag32) ?_); (try simp only [nA, Nat.reduceBEq, Nat.reduceEqDiff, ↓reduceIte, Nat.reduceAdd, Nat.reduceSub])
    (first | refine awP (op_neq rfl rfl rfl) ?_ | refine awP (op_sneq rfl rfl rfl) ?_); (try simp only [nA, Nat.reduceBEq, Nat.reduceEqDiff, ↓reduceIte, Nat.reduceAdd, Nat.reduceSub])
    refine AWL.nil ?_
    (refine hK _ ?_; clear hK K; (try simp only [nA, Nat.reduceBEq, Nat.reduceEqDiff, ↓reduceIte, Nat.reduceAdd, Nat.reduceSub]))
    refine AW.cond rfl rfl rfl (fun hc => ?_) (fun hc => ?_)
    ·
     (try simp only [hcS] at hc); have hc3 := hc; skip
     refine AW.exit ?_; (try simp only [thenE, inBlk, Nat.reduceEqDiff, ↓reduceIte])
     clear hK K
     (refine hK _ ?_; clear hK K; (try simp only [nA, Nat.reduceBEq, Nat.reduceEqDiff, ↓reduceIte, Nat.reduceAdd, Nat.reduceSub]))
     refine AW.region ?_
     (first | refine awP (op_addi rfl rfl rfl (by omega)) ?_ | refine awP (op_add rfl rfl rfl rfl) ?_); (try simp only [nA, Nat.reduceBEq, Nat.reduceEqDiff, ↓reduceIte, Nat.reduceAdd, Nat.reduceSub])
     refine awP (op_move rfl rfl) ?_; (try simp only [nA, Nat.reduceBEq, Nat.reduceEqDiff, ↓reduceIte, Nat.reduceAdd, Nat.reduceSub])
     skip
     refine AWL.nil ?_
     refine ⟨(m + 1, _), by dsimp only; omega, by dsimp only; omega, ⟨rfl, rfl, rfl, rfl, rfl, rfl, rfl, rfl, rfl, rfl, rfl, rfl, trivial⟩, (by first | rfl | trivial), (by first | rfl | trivial)⟩
    ·
     (try simp only [hcS] at hc); have hc3 := hc; have hr := hok m r hrm hc3; have hbr := inv_bd hr.1; have hr0 := chkL_iff.2 hr.1
     refine AW.skip ?_
     (refine hK _ ?_; clear hK K; (try simp only [nA, Nat.reduceBEq, Nat.reduceEqDiff, ↓reduceIte, Nat.reduceAdd, Nat.reduceSub]))
     (refine AW.seq_k ?_; intro K hK)
     (refine AW.seq_k ?_; intro K hK)
     refine AW.region ?_
     refine awP (op_move rfl rfl) ?_; (try simp only [nA, Nat.reduceBEq, Nat.reduceEqDiff, ↓reduceIte, Nat.reduceAdd, Nat.reduceSub])
     refine awJ (OpQ.j (op_callQ (b := true) rfl en15 (C15 (xs := r.1) hbr.1 hbr.2) (RL.cons (by first | exact View.same rfl | exact View.nil | exact View.rof | exact View.src .ro | exact View.src .rof | exact View.src (.sl rfl rfl) | exact View.ptr rfl rfl rfl) (RL.nil)) rfl)) ?_; (try simp only [nA, Nat.reduceBEq, Nat.reduceEqDiff, ↓reduceIte, Nat.reduceAdd, Nat.reduceSub])
     (first | refine awP (op_neq rfl rfl rfl) ?_ | refine awP (op_sneq rfl rfl rfl) ?_); (try simp only [nA, Nat.reduceBEq, Nat.reduceEqDiff, ↓reduceIte, Nat.reduceAdd, Nat.reduceSub])
     refine AWL.nil ?_
     (refine hK _ ?_; clear hK K; (try simp only [nA, Nat.reduceBEq, Nat.reduceEqDiff, ↓reduceIte, Nat.reduceAdd, Nat.reduceSub]))
     refine AW.cond rfl rfl rfl (fun hc => ?_) (fun hc => ?_)
     ·
      (try simp only [hcS] at hc); have hc4 := hc; skip
      (refine AW.seq_k ?_; intro K hK)
      refine AW.region ?_
      refine awP (op_assign rfl rfl) ?_; (try simp only [nA, Nat.reduceBEq, Nat.reduceEqDiff, ↓reduceIte, Nat.reduceAdd, Nat.reduceSub])
      refine AWL.nil ?_
      (refine hK _ ?_; clear hK K; (try simp only [nA, Nat.reduceBEq, Nat.reduceEqDiff, ↓reduceIte, Nat.reduceAdd, Nat.reduceSub]))
      skip
      refine AW.ret ?_; (try simp only [thenE, inBlk, Nat.reduceEqDiff, ↓reduceIte]); exact absurd hr0 hc
     ·
      (try simp only [hcS] at hc); have hc4 := hc; skip
      refine AW.skip ?_
      (refine hK _ ?_; clear hK K; (try simp only [nA, Nat.reduceBEq, Nat.reduceEqDiff, ↓reduceIte, Nat.reduceAdd, Nat.reduceSub]))
      (refine AW.seq_k ?_; intro K hK)
      refine AW.region ?_
      refine awP (op_assign rfl rfl) ?_; (try simp only [nA, Nat.reduceBEq, Nat.reduceEqDiff, ↓reduceIte, Nat.reduceAdd, Nat.reduceSub])
      refine AWL.nil ?_
      (refine hK _ ?_; clear hK K; (try simp only [nA, Nat.reduceBEq, Nat.reduceEqDiff, ↓reduceIte, Nat.reduceAdd, Nat.reduceSub]))
      refine AW.block ?_
      refine AW.loopI (fun (q : Nat × Nat) => [(3, .ptr 0 1 0 0), (4, .ro (xs.map Cart.av)), (5, .v (.int .i64 (i : Nat))), (6, .ptr 1 e 0 0), (7, .ro ((putV xs (gmod (rawV (l.take 2000) (rawN (l.take 2000) k)) 2) (flightN (gmod (rawV (l.take 2000) (nx2 (l.take 2000) k)) 2)) (gmod (rawV (l.take 2000) (nx3 (l.take 2000) k)) 2) (platesP (gmod (rawV (l.take 2000) k) 60))).1.map Cart.av)), (9, .v (.int .i64 (putV xs (gmod (rawV (l.take 2000) (rawN (l.take 2000) k)) 2) (flightN (gmod (rawV (l.take 2000) (nx2 (l.take 2000) k)) 2)) (gmod (rawV (l.take 2000) (nx3 (l.take 2000) k)) 2) (platesP (gmod (rawV (l.take 2000) k) 60))).2.2)), (11, .v (.int .i64 (takeV xs (platesP (gmod (rawV (l.take 2000) k) 60))).2)), (13, .v (.int .i64 (sendV xs (1 + gmod (rawV (l.take 2000) (nx4 (l.take 2000) k)) 6)).2)), (15, .v (.int .i64 (joinV xs (1 + gmod (rawV (l.take 2000) (rawN (l.take 2000) (nx4 (l.take 2000) k))) 6) (1 + gmod (rawV (l.take 2000) (rawN (l.take 2000) (rawN (l.take 2000) (nx4 (l.take 2000) k)))) 6)).2)), (81, .ro (fo.map rav)), (82, .v (.int .i64 (4 : Nat))), (83, .v (.int .i64 (m : Nat))), (16, .v (.int .i64 (m : Nat))), (17, .ro (r.1.map Cart.av)), (18, .v (.int .i64 (q.1 : Nat)))]) (fun q => ⟨[(1, .own 63 [srcRow (l.take 2000) (rawN (l.take 2000) (rawN (l.take 2000) (rawN (l.take 2000) (nx4 (l.take 2000) k))))]), (e, .own 25 [(platesP (gmod (rawV (l.take 2000) k) 60)).av])], q.2⟩) (fun q => q.1 ≤ 60) (fun q => 60 - q.1) (0, _) (by simp) ⟨rfl, rfl, rfl, rfl, rfl, rfl, rfl, rfl, rfl, rfl, rfl, rfl, rfl, rfl, rfl, trivial⟩ rfl ?_; rintro ⟨j, e3⟩ ρ hj; simp only at hj; simp only [updL]; (try simp only [nA, Nat.reduceBEq, Nat.reduceEqDiff, ↓reduceIte, Nat.reduceAdd, Nat.reduceSub])
      (refine AW.seq_k ?_; intro K hK)
      (refine AW.seq_k ?_; intro K hK)
      refine AW.region ?_
      refine awP (op_move rfl rfl) ?_; (try simp only [nA, Nat.reduceBEq, Nat.reduceEqDiff, ↓reduceIte, Nat.reduceAdd, Nat.reduceSub])
      refine awP (op_lss rfl rfl rfl) ?_; (try simp only [nA, Nat.reduceBEq, Nat.reduceEqDiff, ↓reduceIte, Nat.reduceAdd, Nat.reduceSub])
      refine AWL.nil ?_
      (refine hK _ ?_; clear hK K; (try simp only [nA, Nat.reduceBEq, Nat.reduceEqDiff, ↓reduceIte, Nat.reduceAdd, Nat.reduceSub]))
      refine AW.cond rfl rfl rfl (fun hc => ?_) (fun hc => ?_)
      ·
       (try simp only [hcS] at hc); have hc5 := hc; skip
       refine AW.skip ?_
       (refine hK _ ?_; clear hK K; (try simp only [nA, Nat.reduceBEq, Nat.reduceEqDiff, ↓reduceIte, Nat.reduceAdd, Nat.reduceSub]))
       (refine AW.seq_k ?_; intro K hK)
       refine AW.block ?_
       (refine AW.seq_k ?_; intro K hK)
       refine AW.region ?_
       refine awP (op_move rfl rfl) ?_; (try simp only [nA, Nat.reduceBEq, Nat.reduceEqDiff, ↓reduceIte, Nat.reduceAdd, Nat.reduceSub])
       refine awJ (op_call (b := false) rfl en24 (C24 (i := (j : Nat))) (RL.cons (by first | exact View.same rfl | exact View.nil | exact View.rof | exact View.src .ro | exact View.src .rof | exact View.src (.sl rfl rfl) | exact View.ptr rfl rfl rfl) (RL.nil)) rfl (fun h => by cases h) rfl rfl) ?_; (try simp only [nA, Nat.reduceBEq, Nat.reduceEqDiff, ↓reduceIte, Nat.reduceAdd, Nat.reduceSub])
       refine awJ (op_alloc rfl ze25 rfl) ?_; (try simp only [nA, Nat.reduceBEq, Nat.reduceEqDiff, ↓reduceIte, Nat.reduceAdd, Nat.reduceSub])
       refine awJ (op_store rfl rfl rfl rfl rfl rfl sz25 rfl (Nat.le_of_ble_eq_true rfl) rfl) ?_; (try simp only [nA, Nat.reduceBEq, Nat.reduceEqDiff, ↓reduceIte, Nat.reduceAdd, Nat.reduceSub])
       refine AWL.nil ?_
       (refine hK _ ?_; clear hK K; (try simp only [nA, Nat.reduceBEq, Nat.reduceEqDiff, ↓reduceIte, Nat.reduceAdd, Nat.reduceSub]))
       (refine AW.seq_k ?_; intro K hK)
       (refine AW.seq_k ?_; intro K hK)
       refine AW.region (AWL.quiet ?_)
       (first | refine aqR (op_load_ptr rfl rfl rfl rfl ag25 sz25 (Nat.le_of_ble_eq_true rfl) rfl) ?_ | refine aqR (op_load_rop rfl rfl ag25 sz25 (Nat.le_of_ble_eq_true rfl) (by decide) rfl) ?_); (try simp only [nA, Nat.reduceBEq, Nat.reduceEqDiff, ↓reduceIte, Nat.reduceAdd, Nat.reduceSub])
       (first | refine aqR (op_load_ptr rfl rfl rfl rfl ag25 sz25 (Nat.le_of_ble_eq_true rfl) rfl) ?_ | refine aqR (op_load_rop rfl rfl ag25 sz25 (Nat.le_of_ble_eq_true rfl) (by decide) rfl) ?_); (try simp only [nA, Nat.reduceBEq, Nat.reduceEqDiff, ↓reduceIte, Nat.reduceAdd, Nat.reduceSub])
       refine aqP (op_eq25 (p := (platesP (j : Nat))) (q := (platesP (gmod (rawV (l.take 2000) k) 60))) rfl rfl rfl) ?_; (try simp only [nA, Nat.reduceBEq, Nat.reduceEqDiff, ↓reduceIte, Nat.reduceAdd, Nat.reduceSub])
       refine aqP (op_move rfl rfl) ?_; (try simp only [nA, Nat.reduceBEq, Nat.reduceEqDiff, ↓reduceIte, Nat.reduceAdd, Nat.reduceSub])
       refine' aqAnd' [_, _] [110,111] rfl rfl rfl rfl rfl rfl rfl rfl rfl rfl rfl rfl (fun hb => ?_) ?_; rotate_left
       ·
        (try simp only [hcS] at hb)
        refine aqP (op_move rfl rfl) ?_; (try simp only [nA, Nat.reduceBEq, Nat.reduceEqDiff, ↓reduceIte, Nat.reduceAdd, Nat.reduceSub])
        refine aqP (op_lss rfl rfl rfl) ?_; (try simp only [nA, Nat.reduceBEq, Nat.reduceEqDiff, ↓reduceIte, Nat.reduceAdd, Nat.reduceSub])
        (refine aqSeg rfl rfl rfl ?_; repeat (first | exact fun _ _ => rfl | refine upd_out rfl ?_ | refine era_out rfl ?_))
       (try simp only [nA, Nat.reduceBEq, Nat.reduceEqDiff, ↓reduceIte, Nat.reduceAdd, Nat.reduceSub])
       refine AQ.nil ?_
       (refine hK _ ?_; clear hK K; (try simp only [nA, Nat.reduceBEq, Nat.reduceEqDiff, ↓reduceIte, Nat.reduceAdd, Nat.reduceSub]))
       refine AW.cond rfl rfl rfl (fun hc => ?_) (fun hc => ?_)
       ·
        (try simp only [hcS] at hc); have hc6 := hc; skip
        refine AW.exit ?_; (try simp only [thenE, inBlk, Nat.reduceEqDiff, ↓reduceIte])
        clear hK K
        (refine hK _ ?_; clear hK K; (try simp only [nA, Nat.reduceBEq, Nat.reduceEqDiff, ↓reduceIte, Nat.reduceAdd, Nat.reduceSub]))
        refine AW.region ?_
        refine awP (op_move rfl rfl) ?_; (try simp only [nA, Nat.reduceBEq, Nat.reduceEqDiff, ↓reduceIte, Nat.reduceAdd, Nat.reduceSub])
        (first | refine awP (op_addi rfl rfl rfl (by omega)) ?_ | refine awP (op_add rfl rfl rfl rfl) ?_); (try simp only [nA, Nat.reduceBEq, Nat.reduceEqDiff, ↓reduceIte, Nat.reduceAdd, Nat.reduceSub])
        refine awP (op_assign rfl rfl) ?_; (try simp only [nA, Nat.reduceBEq, Nat.reduceEqDiff, ↓reduceIte, Nat.reduceAdd, Nat.reduceSub])
        refine AWL.gh (Gh.drop 2) ?_; (try simp only [nA, Nat.reduceBEq, Nat.reduceEqDiff, ↓reduceIte, Nat.reduceAdd, Nat.reduceSub])
        refine AWL.nil ?_
        refine ⟨(j + 1, _), by dsimp only; omega, by dsimp only; omega, ⟨rfl, rfl, rfl, rfl, rfl, rfl, rfl, rfl, rfl, rfl, rfl, rfl, rfl, rfl, rfl, trivial⟩, (by first | rfl | trivial), (by first | rfl | trivial)⟩
       ·
        (try simp only [hcS] at hc); have hc6 := hc; have hcq := hr.2 (platesP (j : Nat)) (hc6.elim .inl fun h => .inr (by omega))
        refine AW.skip ?_
        (refine hK _ ?_; clear hK K; (try simp only [nA, Nat.reduceBEq, Nat.reduceEqDiff, ↓reduceIte, Nat.reduceAdd, Nat.reduceSub]))
        (refine AW.seq_k ?_; intro K hK)
        refine AW.region ?_
        refine awP (op_move rfl rfl) ?_; (try simp only [nA, Nat.reduceBEq, Nat.reduceEqDiff, ↓reduceIte, Nat.reduceAdd, Nat.reduceSub])
        (first | refine awR (op_load_ptr rfl rfl rfl rfl ag25 sz25 (Nat.le_of_ble_eq_true rfl) rfl) ?_ | refine awR (op_load_rop rfl rfl ag25 sz25 (Nat.le_of_ble_eq_true rfl) (by decide) rfl) ?_); (try simp only [nA, Nat.reduceBEq, Nat.reduceEqDiff, ↓reduceIte, Nat.reduceAdd, Nat.reduceSub])
        refine awJ (op_call (b := false) rfl en34 (C34 (xs := xs) (p := (platesP (j : Nat))) hbd.2) (RL.cons (by first | exact View.same rfl | exact View.nil | exact View.rof | exact View.src .ro | exact View.src .rof | exact View.src (.sl rfl rfl) | exact View.ptr rfl rfl rfl) (RL.cons (by first | exact View.same rfl | exact View.nil | exact View.rof | exact View.src .ro | exact View.src .rof | exact View.src (.sl rfl rfl) | exact View.ptr rfl rfl rfl) (RL.nil))) rfl (fun h => by cases h) rfl rfl) ?_; (try simp only [nA, Nat.reduceBEq, Nat.reduceEqDiff, ↓reduceIte, Nat.reduceAdd, Nat.reduceSub])
        refine awP (op_move rfl rfl) ?_; (try simp only [nA, Nat.reduceBEq, Nat.reduceEqDiff, ↓reduceIte, Nat.reduceAdd, Nat.reduceSub])
        refine awP (op_extract rfl rfl rfl) ?_; (try simp only [nA, Nat.reduceBEq, Nat.reduceEqDiff, ↓reduceIte, Nat.reduceAdd, Nat.reduceSub])
        refine awP (op_extract rfl rfl rfl) ?_; (try simp only [nA, Nat.reduceBEq, Nat.reduceEqDiff, ↓reduceIte, Nat.reduceAdd, Nat.reduceSub])
        refine awP (op_extract rfl rfl rfl) ?_; (try simp only [nA, Nat.reduceBEq, Nat.reduceEqDiff, ↓reduceIte, Nat.reduceAdd, Nat.reduceSub])
        refine awP (op_extract rfl rfl rfl) ?_; (try simp only [nA, Nat.reduceBEq, Nat.reduceEqDiff, ↓reduceIte, Nat.reduceAdd, Nat.reduceSub])
        refine awJ (op_alloc rfl ze45 rfl) ?_; (try simp only [nA, Nat.reduceBEq, Nat.reduceEqDiff, ↓reduceIte, Nat.reduceAdd, Nat.reduceSub])
        refine awP (op_assign rfl rfl) ?_; (try simp only [nA, Nat.reduceBEq, Nat.reduceEqDiff, ↓reduceIte, Nat.reduceAdd, Nat.reduceSub])
        refine awJ (op_store rfl rfl rfl rfl rfl rfl sz45 rfl (Nat.le_of_ble_eq_true rfl) rfl) ?_; (try simp only [nA, Nat.reduceBEq, Nat.reduceEqDiff, ↓reduceIte, Nat.reduceAdd, Nat.reduceSub])
        refine awP (op_assign rfl rfl) ?_; (try simp only [nA, Nat.reduceBEq, Nat.reduceEqDiff, ↓reduceIte, Nat.reduceAdd, Nat.reduceSub])
        refine awP (op_assign rfl rfl) ?_; (try simp only [nA, Nat.reduceBEq, Nat.reduceEqDiff, ↓reduceIte, Nat.reduceAdd, Nat.reduceSub])
        refine AWL.nil ?_
        (refine hK _ ?_; clear hK K; (try simp only [nA, Nat.reduceBEq, Nat.reduceEqDiff, ↓reduceIte, Nat.reduceAdd, Nat.reduceSub]))
        (refine AW.seq_k ?_; intro K hK)
        refine AW.region ?_
        refine awP (op_move rfl rfl) ?_; (try simp only [nA, Nat.reduceBEq, Nat.reduceEqDiff, ↓reduceIte, Nat.reduceAdd, Nat.reduceSub])
        (first | refine awR (op_load_ptr rfl rfl rfl rfl ag25 sz25 (Nat.le_of_ble_eq_true rfl) rfl) ?_ | refine awR (op_load_rop rfl rfl ag25 sz25 (Nat.le_of_ble_eq_true rfl) (by decide) rfl) ?_); (try simp only [nA, Nat.reduceBEq, Nat.reduceEqDiff, ↓reduceIte, Nat.reduceAdd, Nat.reduceSub])
        refine awJ (op_call (b := false) rfl en34 (C34 (xs := r.1) (p := (platesP (j : Nat))) hbr.2) (RL.cons (by first | exact View.same rfl | exact View.nil | exact View.rof | exact View.src .ro | exact View.src .rof | exact View.src (.sl rfl rfl) | exact View.ptr rfl rfl rfl) (RL.cons (by first | exact View.same rfl | exact View.nil | exact View.rof | exact View.src .ro | exact View.src .rof | exact View.src (.sl rfl rfl) | exact View.ptr rfl rfl rfl) (RL.nil))) rfl (fun h => by cases h) rfl rfl) ?_; (try simp only [nA, Nat.reduceBEq, Nat.reduceEqDiff, ↓reduceIte, Nat.reduceAdd, Nat.reduceSub])
        refine awP (op_move rfl rfl) ?_; (try simp only [nA, Nat.reduceBEq, Nat.reduceEqDiff, ↓reduceIte, Nat.reduceAdd, Nat.reduceSub])
        refine awP (op_extract rfl rfl rfl) ?_; (try simp only [nA, Nat.reduceBEq, Nat.reduceEqDiff, ↓reduceIte, Nat.reduceAdd, Nat.reduceSub])
        refine awP (op_extract rfl rfl rfl) ?_; (try simp only [nA, Nat.reduceBEq, Nat.reduceEqDiff, ↓reduceIte, Nat.reduceAdd, Nat.reduceSub])
        refine awP (op_extract rfl rfl rfl) ?_; (try simp only [nA, Nat.reduceBEq, Nat.reduceEqDiff, ↓reduceIte, Nat.reduceAdd, Nat.reduceSub])
        refine awP (op_extract rfl rfl rfl) ?_; (try simp only [nA, Nat.reduceBEq, Nat.reduceEqDiff, ↓reduceIte, Nat.reduceAdd, Nat.reduceSub])
        refine awJ (op_alloc rfl ze45 rfl) ?_; (try simp only [nA, Nat.reduceBEq, Nat.reduceEqDiff, ↓reduceIte, Nat.reduceAdd, Nat.reduceSub])
        refine awP (op_assign rfl rfl) ?_; (try simp only [nA, Nat.reduceBEq, Nat.reduceEqDiff, ↓reduceIte, Nat.reduceAdd, Nat.reduceSub])
        refine awJ (op_store rfl rfl rfl rfl rfl rfl sz45 rfl (Nat.le_of_ble_eq_true rfl) rfl) ?_; (try simp only [nA, Nat.reduceBEq, Nat.reduceEqDiff, ↓reduceIte, Nat.reduceAdd, Nat.reduceSub])
        refine awP (op_assign rfl rfl) ?_; (try simp only [nA, Nat.reduceBEq, Nat.reduceEqDiff, ↓reduceIte, Nat.reduceAdd, Nat.reduceSub])
        refine awP (op_assign rfl rfl) ?_; (try simp only [nA, Nat.reduceBEq, Nat.reduceEqDiff, ↓reduceIte, Nat.reduceAdd, Nat.reduceSub])
        refine AWL.nil ?_
        (refine hK _ ?_; clear hK K; (try simp only [nA, Nat.reduceBEq, Nat.reduceEqDiff, ↓reduceIte, Nat.reduceAdd, Nat.reduceSub]))
        (refine AW.seq_k ?_; intro K hK)
        refine AW.region (AWL.quiet ?_)
        refine aqP (op_move rfl rfl) ?_; (try simp only [nA, Nat.reduceBEq, Nat.reduceEqDiff, ↓reduceIte, Nat.reduceAdd, Nat.reduceSub])
        refine aqP (op_move rfl rfl) ?_; (try simp only [nA, Nat.reduceBEq, Nat.reduceEqDiff, ↓reduceIte, Nat.reduceAdd, Nat.reduceSub])
        (first | refine aqP (op_neq rfl rfl rfl) ?_ | refine aqP (op_sneq rfl rfl rfl) ?_); (try simp only [nA, Nat.reduceBEq, Nat.reduceEqDiff, ↓reduceIte, Nat.reduceAdd, Nat.reduceSub])
        refine aqP (op_move rfl rfl) ?_; (try simp only [nA, Nat.reduceBEq, Nat.reduceEqDiff, ↓reduceIte, Nat.reduceAdd, Nat.reduceSub])
        refine' aqOr' [_, _, _] [133,134,135] rfl rfl rfl rfl rfl rfl rfl rfl rfl rfl rfl rfl (fun hb => ?_) ?_; rotate_left
        ·
         (try simp only [hcS] at hb)
         (first | refine aqR (op_load_ptr rfl rfl rfl rfl ag45 sz45 (Nat.le_of_ble_eq_true rfl) rfl) ?_ | refine aqR (op_load_rop rfl rfl ag45 sz45 (Nat.le_of_ble_eq_true rfl) (by decide) rfl) ?_); (try simp only [nA, Nat.reduceBEq, Nat.reduceEqDiff, ↓reduceIte, Nat.reduceAdd, Nat.reduceSub])
         (first | refine aqR (op_load_ptr rfl rfl rfl rfl ag45 sz45 (Nat.le_of_ble_eq_true rfl) rfl) ?_ | refine aqR (op_load_rop rfl rfl ag45 sz45 (Nat.le_of_ble_eq_true rfl) (by decide) rfl) ?_); (try simp only [nA, Nat.reduceBEq, Nat.reduceEqDiff, ↓reduceIte, Nat.reduceAdd, Nat.reduceSub])
         refine aqP (op_neq45 rfl rfl rfl) ?_; (try simp only [nA, Nat.reduceBEq, Nat.reduceEqDiff, ↓reduceIte, Nat.reduceAdd, Nat.reduceSub])
         (refine aqSeg rfl rfl rfl ?_; repeat (first | exact fun _ _ => rfl | refine upd_out rfl ?_ | refine era_out rfl ?_))
        (try simp only [nA, Nat.reduceBEq, Nat.reduceEqDiff, ↓reduceIte, Nat.reduceAdd, Nat.reduceSub])
        refine aqP (op_move rfl rfl) ?_; (try simp only [nA, Nat.reduceBEq, Nat.reduceEqDiff, ↓reduceIte, Nat.reduceAdd, Nat.reduceSub])
        refine' aqOr' [_, _, _] [138,139,140] rfl rfl rfl rfl rfl rfl rfl rfl rfl rfl rfl rfl (fun hb => ?_) ?_; rotate_left
        ·
         (try simp only [hcS] at hb)
         refine aqP (op_move rfl rfl) ?_; (try simp only [nA, Nat.reduceBEq, Nat.reduceEqDiff, ↓reduceIte, Nat.reduceAdd, Nat.reduceSub])
         refine aqP (op_move rfl rfl) ?_; (try simp only [nA, Nat.reduceBEq, Nat.reduceEqDiff, ↓reduceIte, Nat.reduceAdd, Nat.reduceSub])
         (first | refine aqP (op_neq rfl rfl rfl) ?_ | refine aqP (op_sneq rfl rfl rfl) ?_); (try simp only [nA, Nat.reduceBEq, Nat.reduceEqDiff, ↓reduceIte, Nat.reduceAdd, Nat.reduceSub])
         (refine aqSeg rfl rfl rfl ?_; repeat (first | exact fun _ _ => rfl | refine upd_out rfl ?_ | refine era_out rfl ?_))
        (try simp only [nA, Nat.reduceBEq, Nat.reduceEqDiff, ↓reduceIte, Nat.reduceAdd, Nat.reduceSub])
        refine aqP (op_move rfl rfl) ?_; (try simp only [nA, Nat.reduceBEq, Nat.reduceEqDiff, ↓reduceIte, Nat.reduceAdd, Nat.reduceSub])
        refine' aqOr' [_, _, _] [143,144,145] rfl rfl rfl rfl rfl rfl rfl rfl rfl rfl rfl rfl (fun hb => ?_) ?_; rotate_left
        ·
         (try simp only [hcS] at hb)
         refine aqP (op_move rfl rfl) ?_; (try simp only [nA, Nat.reduceBEq, Nat.reduceEqDiff, ↓reduceIte, Nat.reduceAdd, Nat.reduceSub])
         refine aqP (op_move rfl rfl) ?_; (try simp only [nA, Nat.reduceBEq, Nat.reduceEqDiff, ↓reduceIte, Nat.reduceAdd, Nat.reduceSub])
         (first | refine aqP (op_neq rfl rfl rfl) ?_ | refine aqP (op_sneq rfl rfl rfl) ?_ | refine aqP (op_bneq rfl rfl rfl Try.underlying4) ?_); (try simp only [nA, Nat.reduceBEq, Nat.reduceEqDiff, ↓reduceIte, Nat.reduceAdd, Nat.reduceSub])
         (refine aqSeg rfl rfl rfl ?_; repeat (first | exact fun _ _ => rfl | refine upd_out rfl ?_ | refine era_out rfl ?_))
        (try simp only [nA, Nat.reduceBEq, Nat.reduceEqDiff, ↓reduceIte, Nat.reduceAdd, Nat.reduceSub])
        refine AQ.nil ?_
        (refine hK _ ?_; clear hK K; (try simp only [nA, Nat.reduceBEq, Nat.reduceEqDiff, ↓reduceIte, Nat.reduceAdd, Nat.reduceSub]))
        refine AW.cond rfl rfl rfl (fun hc => ?_) (fun hc => ?_)
        ·
         (try simp only [hcS] at hc); have hc7 := hc; skip
         (refine AW.seq_k ?_; intro K hK)
         refine AW.region ?_
         refine awP (op_assign rfl rfl) ?_; (try simp only [nA, Nat.reduceBEq, Nat.reduceEqDiff, ↓reduceIte, Nat.reduceAdd, Nat.reduceSub])
         refine AWL.nil ?_
         (refine hK _ ?_; clear hK K; (try simp only [nA, Nat.reduceBEq, Nat.reduceEqDiff, ↓reduceIte, Nat.reduceAdd, Nat.reduceSub]))
         skip
         refine AW.ret ?_; (try simp only [thenE, inBlk, Nat.reduceEqDiff, ↓reduceIte]); exfalso; rw [hcq] at hc; simp [flEq_refl] at hc
        ·
         (try simp only [hcS] at hc); have hc7 := hc; skip
         refine AW.skip ?_
         (try simp only [thenE, inBlk, Nat.reduceEqDiff, ↓reduceIte])
         (refine hK _ ?_; clear hK K; (try simp only [nA, Nat.reduceBEq, Nat.reduceEqDiff, ↓reduceIte, Nat.reduceAdd, Nat.reduceSub]))
         refine AW.region ?_
         refine awP (op_move rfl rfl) ?_; (try simp only [nA, Nat.reduceBEq, Nat.reduceEqDiff, ↓reduceIte, Nat.reduceAdd, Nat.reduceSub])
         (first | refine awP (op_addi rfl rfl rfl (by omega)) ?_ | refine awP (op_add rfl rfl rfl rfl) ?_); (try simp only [nA, Nat.reduceBEq, Nat.reduceEqDiff, ↓reduceIte, Nat.reduceAdd, Nat.reduceSub])
         refine awP (op_assign rfl rfl) ?_; (try simp only [nA, Nat.reduceBEq, Nat.reduceEqDiff, ↓reduceIte, Nat.reduceAdd, Nat.reduceSub])
         refine AWL.gh (Gh.drop 2) ?_; (try simp only [nA, Nat.reduceBEq, Nat.reduceEqDiff, ↓reduceIte, Nat.reduceAdd, Nat.reduceSub])
         refine AWL.nil ?_
         refine ⟨(j + 1, _), by dsimp only; omega, by dsimp only; omega, ⟨rfl, rfl, rfl, rfl, rfl, rfl, rfl, rfl, rfl, rfl, rfl, rfl, rfl, rfl, rfl, trivial⟩, (by first | rfl | trivial), (by first | rfl | trivial)⟩
      ·
       (try simp only [hcS] at hc); have hc5 := hc; skip
       refine AW.exit ?_; (try simp only [thenE, inBlk, Nat.reduceEqDiff, ↓reduceIte])
       clear hK K
       (try simp only [thenE, inBlk, Nat.reduceEqDiff, ↓reduceIte])
       (refine hK _ ?_; clear hK K; (try simp only [nA, Nat.reduceBEq, Nat.reduceEqDiff, ↓reduceIte, Nat.reduceAdd, Nat.reduceSub]))
       refine AW.region ?_
       (first | refine awP (op_addi rfl rfl rfl (by omega)) ?_ | refine awP (op_add rfl rfl rfl rfl) ?_); (try simp only [nA, Nat.reduceBEq, Nat.reduceEqDiff, ↓reduceIte, Nat.reduceAdd, Nat.reduceSub])
       refine awP (op_move rfl rfl) ?_; (try simp only [nA, Nat.reduceBEq, Nat.reduceEqDiff, ↓reduceIte, Nat.reduceAdd, Nat.reduceSub])
       skip
       refine AWL.nil ?_
       refine ⟨(m + 1, _), by dsimp only; omega, by dsimp only; omega, ⟨rfl, rfl, rfl, rfl, rfl, rfl, rfl, rfl, rfl, rfl, rfl, rfl, trivial⟩, (by first | rfl | trivial), (by first | rfl | trivial)⟩
   ·
    (try simp only [hcS] at hc); have hc2 := hc; skip
    refine AW.exit ?_; (try simp only [thenE, inBlk, Nat.reduceEqDiff, ↓reduceIte])
    clear hK K
    (refine hK _ ?_; clear hK K; (try simp only [nA, Nat.reduceBEq, Nat.reduceEqDiff, ↓reduceIte, Nat.reduceAdd, Nat.reduceSub]))
    (refine AW.seq_k ?_; intro K hK)
    refine AW.region ?_
    refine awP (op_move rfl rfl) ?_; (try simp only [nA, Nat.reduceBEq, Nat.reduceEqDiff, ↓reduceIte, Nat.reduceAdd, Nat.reduceSub])
    (first | refine awP (op_eql rfl rfl rfl) ?_ | refine awP (op_seql rfl rfl rfl) ?_); (try simp only [nA, Nat.reduceBEq, Nat.reduceEqDiff, ↓reduceIte, Nat.reduceAdd, Nat.reduceSub])
    refine AWL.nil ?_
    (refine hK _ ?_; clear hK K; (try simp only [nA, Nat.reduceBEq, Nat.reduceEqDiff, ↓reduceIte, Nat.reduceAdd, Nat.reduceSub]))
    refine AW.cond rfl rfl rfl (fun hc => ?_) (fun hc => ?_)
    ·
     (try simp only [hcS] at hc); have hc8 := hc; skip
     refine AW.region ?_
     refine awP (op_move rfl rfl) ?_; (try simp only [nA, Nat.reduceBEq, Nat.reduceEqDiff, ↓reduceIte, Nat.reduceAdd, Nat.reduceSub])
     refine awP (op_assign rfl rfl) ?_; (try simp only [nA, Nat.reduceBEq, Nat.reduceEqDiff, ↓reduceIte, Nat.reduceAdd, Nat.reduceSub])
     refine AWL.nil ?_
     (try simp only [thenE, inBlk, Nat.reduceEqDiff, ↓reduceIte])
     (refine hK _ ?_; clear hK K; (try simp only [nA, Nat.reduceBEq, Nat.reduceEqDiff, ↓reduceIte, Nat.reduceAdd, Nat.reduceSub]))
     refine AW.region ?_
     refine awP (op_move rfl rfl) ?_; (try simp only [nA, Nat.reduceBEq, Nat.reduceEqDiff, ↓reduceIte, Nat.reduceAdd, Nat.reduceSub])
     (first | refine awP (op_addi rfl rfl rfl (by omega)) ?_ | refine awP (op_add rfl rfl rfl rfl) ?_); (try simp only [nA, Nat.reduceBEq, Nat.reduceEqDiff, ↓reduceIte, Nat.reduceAdd, Nat.reduceSub])
     refine awP (op_assign rfl rfl) ?_; (try simp only [nA, Nat.reduceBEq, Nat.reduceEqDiff, ↓reduceIte, Nat.reduceAdd, Nat.reduceSub])
     refine AWL.gh (Gh.drop 1) ?_; (try simp only [nA, Nat.reduceBEq, Nat.reduceEqDiff, ↓reduceIte, Nat.reduceAdd, Nat.reduceSub])
     refine AWL.nil ?_
     refine ⟨(i + 1, (rawN (l.take 2000) (rawN (l.take 2000) (rawN (l.take 2000) (nx4 (l.take 2000) k)))), (putV xs (gmod (rawV (l.take 2000) (rawN (l.take 2000) k)) 2) (flightN (gmod (rawV (l.take 2000) (nx2 (l.take 2000) k)) 2)) (gmod (rawV (l.take 2000) (nx3 (l.take 2000) k)) 2) (platesP (gmod (rawV (l.take 2000) k) 60))).1, _), ⟨by dsimp only; omega, put_inv hc8⟩, by dsimp only; omega, ⟨rfl, rfl, rfl, trivial⟩, (by first | rfl | trivial), (by first | rfl | trivial)⟩
    ·
     (try simp only [hcS] at hc); have hc8 := hc; skip
     refine AW.skip ?_
     (try simp only [thenE, inBlk, Nat.reduceEqDiff, ↓reduceIte])
     (refine hK _ ?_; clear hK K; (try simp only [nA, Nat.reduceBEq, Nat.reduceEqDiff, ↓reduceIte, Nat.reduceAdd, Nat.reduceSub]))
     refine AW.region ?_
     refine awP (op_move rfl rfl) ?_; (try simp only [nA, Nat.reduceBEq, Nat.reduceEqDiff, ↓reduceIte, Nat.reduceAdd, Nat.reduceSub])
     (first | refine awP (op_addi rfl rfl rfl (by omega)) ?_ | refine awP (op_add rfl rfl rfl rfl) ?_); (try simp only [nA, Nat.reduceBEq, Nat.reduceEqDiff, ↓reduceIte, Nat.reduceAdd, Nat.reduceSub])
     refine awP (op_assign rfl rfl) ?_; (try simp only [nA, Nat.reduceBEq, Nat.reduceEqDiff, ↓reduceIte, Nat.reduceAdd, Nat.reduceSub])
     refine AWL.gh (Gh.drop 1) ?_; (try simp only [nA, Nat.reduceBEq, Nat.reduceEqDiff, ↓reduceIte, Nat.reduceAdd, Nat.reduceSub])
     refine AWL.nil ?_
     refine ⟨(i + 1, (rawN (l.take 2000) (rawN (l.take 2000) (rawN (l.take 2000) (nx4 (l.take 2000) k)))), xs, _), ⟨by dsimp only; omega, hI⟩, by dsimp only; omega, ⟨rfl, rfl, rfl, trivial⟩, (by first | rfl | trivial), (by first | rfl | trivial)⟩
  ·
   (try simp only [hcS] at hc); have hc1 := hc; skip
   refine AW.exit ?_; (try simp only [thenE, inBlk, Nat.reduceEqDiff, ↓reduceIte])
   clear hK K
   (refine hK _ ?_; clear hK K; (try simp only [nA, Nat.reduceBEq, Nat.reduceEqDiff, ↓reduceIte, Nat.reduceAdd, Nat.reduceSub]))
   (refine AW.seq_k ?_; intro K hK)
   refine AW.region ?_
   refine awJ (OpQ.j (op_callQ (b := true) rfl en19 (C19) (RL.nil) rfl)) ?_; (try simp only [nA, Nat.reduceBEq, Nat.reduceEqDiff, ↓reduceIte, Nat.reduceAdd, Nat.reduceSub])
   refine awP (op_assign rfl rfl) ?_; (try simp only [nA, Nat.reduceBEq, Nat.reduceEqDiff, ↓reduceIte, Nat.reduceAdd, Nat.reduceSub])
   refine AWL.nil ?_
   (refine hK _ ?_; clear hK K; (try simp only [nA, Nat.reduceBEq, Nat.reduceEqDiff, ↓reduceIte, Nat.reduceAdd, Nat.reduceSub]))
   skip
   refine AW.ret ?_; (try simp only [thenE, inBlk, Nat.reduceEqDiff, ↓reduceIte]); exact RQ.of0 rfl (.tmp (Nat.le_of_ble_eq_true rfl) rfl rfl .nil)
end Go.Proofs.Ytbbedhidiffdgaa
