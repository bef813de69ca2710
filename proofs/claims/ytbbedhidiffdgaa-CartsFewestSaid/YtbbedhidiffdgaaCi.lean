import Derived.Test.YtbbedhidiffdgaaCh
namespace Go.Proofs.Ytbbedhidiffdgaa
open Go.RowKit
set_option linter.unusedSimpArgs false
set_option linter.unusedVariables false

/-! ### What a list of valid carts is -/
theorem chkP_iff : ∀ (l pl : List Plate) (pl' : List Plate), chkP l pl = some pl' → (∀ p ∈ l, p ∉ pl ∧ l.count p ≤ 1) ∧ ∀ q, q ∈ pl' ↔ q ∈ pl ∨ q ∈ l := fun l pl pl' h => by
  have h1 : ∀ p ∈ l, p ∉ pl ∧ l.count p ≤ 1 := fun p hp => by
    apply Classical.byContradiction
    intro hn
    have : chkP l pl = none := chkP_no l pl ⟨p, hp, by
      by_cases h1 : p ∈ pl
      · exact .inl h1
      · right
        apply Classical.byContradiction
        intro h2
        exact hn ⟨h1, by omega⟩⟩
    rw [this] at h; cases h
  obtain ⟨pl2, e, h2⟩ := chkP_yes l pl h1
  rw [e] at h; injection h with h; subst h
  exact ⟨h1, h2⟩
structure Inv (xs : List Cart) : Prop where
  len : xs.length ≤ 24
  val : ∀ c ∈ xs, validB c = true
  asc : xs.Pairwise fun c d => c.number < d.number
  cnt : ∀ q, countV xs q ≤ 1
theorem countV_cons {c : Cart} {xs : List Cart} {p : Plate} : countV (c :: xs) p = c.plates.count p + countV xs p := by simp [countV]
theorem chk_iff : ∀ (cs : List Cart) (o : Option Int) (pl : List Plate), chk o cs pl = 0 ↔ (∀ c ∈ cs, validB c = true) ∧ cs.Pairwise (fun c d => c.number < d.number) ∧ (∀ c ∈ cs, prevBad o c.number = false) ∧ (∀ q, countV cs q ≤ 1) ∧ ∀ q ∈ pl, countV cs q = 0
  | [], o, pl => by simp [chk, countV]
  | c :: cs, o, pl => by
    have ih := fun pl' => chk_iff cs (some c.number) pl'
    unfold chk
    by_cases h1 : validB c = false
    · rw [if_pos h1]
      constructor
      · intro h; cases h
      · intro h; rw [h.1 c (by simp)] at h1; cases h1
    rw [if_neg h1]
    have h1' : validB c = true := by simpa using h1
    by_cases h2 : prevBad o c.number = true
    · rw [if_pos h2]
      constructor
      · intro h; cases h
      · intro h; rw [h.2.2.1 c (by simp)] at h2; cases h2
    rw [if_neg h2]
    have h2' : prevBad o c.number = false := by simpa using h2
    cases hp : chkP c.plates pl with
    | none =>
      simp only
      constructor
      · intro h; cases h
      · rintro ⟨_, _, _, h4, h5⟩
        obtain ⟨pl', e, _⟩ := chkP_yes c.plates pl fun p hp' => by
          have h6 := h4 p
          rw [countV_cons] at h6
          exact ⟨fun hm => by have := h5 p hm; rw [countV_cons] at this; have := List.count_pos_iff.2 hp'; omega, by omega⟩
        rw [e] at hp; cases hp
    | some pl' =>
      obtain ⟨k1, k2⟩ := chkP_iff _ _ _ hp
      simp only [ih pl']
      constructor
      · rintro ⟨g1, g2, g3, g4, g5⟩
        refine ⟨fun d hd => ?_, List.pairwise_cons.2 ⟨fun d hd => ?_, g2⟩, fun d hd => ?_, fun q => ?_, fun q hq => ?_⟩
        · rcases List.mem_cons.1 hd with rfl | hd
          · exact h1'
          · exact g1 d hd
        · have := g3 d hd
          simpa [prevBad] using this
        · rcases List.mem_cons.1 hd with rfl | hd
          · exact h2'
          · have h7 := g3 d hd
            cases o with
            | none => rfl
            | some m => simp [prevBad] at h7 h2' ⊢; omega
        · rw [countV_cons]
          by_cases hq : q ∈ c.plates
          · have := g5 q ((k2 q).2 (.inr hq))
            have := (k1 q hq).2
            omega
          · have := g4 q
            rw [List.count_eq_zero.2 hq]; omega
        · rw [countV_cons, List.count_eq_zero.2 fun hc => (k1 q hc).1 hq, g5 q ((k2 q).2 (.inl hq))]
      · rintro ⟨g1, g2, g3, g4, g5⟩
        have g2' := List.pairwise_cons.1 g2
        refine ⟨fun d hd => g1 d (by simp [hd]), g2'.2, fun d hd => ?_, fun q => ?_, fun q hq => ?_⟩
        · have := g2'.1 d hd
          simp [prevBad]; omega
        · have := g4 q; rw [countV_cons] at this; omega
        · rcases (k2 q).1 hq with hq | hq
          · have := g5 q hq; rw [countV_cons] at this; omega
          · have := g4 q; rw [countV_cons] at this; have := List.count_pos_iff.2 hq; omega
theorem chkL_iff {xs : List Cart} : chkL xs = 0 ↔ Inv xs := by
  unfold chkL
  by_cases h : (xs.length : Int) > 24
  · rw [if_pos h]
    exact ⟨fun h => (by cases h), fun h' => (by have := h'.len; omega)⟩
  · rw [if_neg h, chk_iff]
    exact ⟨fun ⟨a, b, _, d, _⟩ => ⟨by omega, a, b, d⟩, fun h' => ⟨h'.val, h'.asc, fun _ _ => rfl, h'.cnt, by simp⟩⟩
theorem num_at {xs : List Cart} (h : Inv xs) {i : Nat} (hi : i < xs.length) : numN xs (xs.getD i default).number = i := by
  rw [List.getD_eq_getElem?_getD, List.getElem?_eq_getElem hi]
  refine first_at (List.getElem?_eq_getElem hi) (by simp) fun k hk hki => ?_
  have := List.pairwise_iff_getElem.1 h.asc k i hk hi hki
  simp; omega
/-! ### Take -/
theorem run_neq25 (p q : Plate) (w : World) : (binOp .neq 25 (.agg #[.int .i64 p.lead, .int .i64 p.airline, .int .i64 p.serial]) (.agg #[.int .i64 q.lead, .int .i64 q.airline, .int .i64 q.serial])).run Try.prog w = .ok (.bool (!decide (p = q))) w := by
  obtain ⟨a, b, c⟩ := p
  obtain ⟨a', b', c'⟩ := q
  unfold binOp
  simp only [Op.equal]
  rw [Sem.run_bind, show Op.maxDepth = 9998 + 1 + 1 from rfl, run_equalIn_struct w _ 25 _ _ fo25 st25]
  unfold Program.fieldsOf; rw [Try.underlying25]
  simp only [Op.eqFields]
  go_simp
  by_cases h1 : a = a' <;> by_cases h2 : b = b' <;> by_cases h3 : c = c' <;> simp [h1, h2, h3]
theorem run_tyn25 (p q : Operand) (x y : Array Value) (w : World) : (eqGuard .neq 25 p q (.agg x) (.agg y)).run Try.prog w = .ok () w := by
  unfold eqGuard
  simp [ty25, run_program]
section
variable {S0 : Nat → Prop} {own0 : List Nat} {v0 : List Value} {w0 : World} {o : Oper} {ev : Operand → AV} {T : Sl} {yt : TypeId} {y z : Operand} {p q : Plate}
theorem op_neq25 (ho : o.op = .binOp .neq 25 y z yt) (hy : ev y = .agg p.av) (hz : ev z = .agg q.av) : OpP ⟨Try.prog, S0, own0, v0, w0⟩ o ev T (.v (.bool (!decide (p = q)))) :=
  op_bin_agg (xs := [.int .i64 p.lead, .int .i64 p.airline, .int .i64 p.serial]) (ys := [.int .i64 q.lead, .int .i64 q.airline, .int .i64 q.serial]) ho hy hz (fun w => run_tyn25 _ _ _ _ w) (fun w => run_neq25 p q w) rfl
end
abbrev notP (p : Plate) : Plate → Bool := fun q => !decide (q = p)
abbrev delP (c : Cart) (p : Plate) : Cart := { c with plates := c.plates.filter (notP p) }
def takeV (xs : List Cart) (p : Plate) : List Cart × Int :=
  if chkL xs ≠ 0 then ([], chkL xs) else if (findV xs p).2 = false then ([], 6) else if (xs.getD (onN xs p) default).away = true then ([], 7) else
    (xs.set (onN xs p) (delP (xs.getD (onN xs p) default) p), 0)
theorem filt_yes {l : List Plate} {k : Nat} {p q : Plate} (h : l[k]? = some q) (hq : ¬ q = p) : (l.take (k + 1)).filter (notP p) = (l.take k).filter (notP p) ++ [q] := by
  rw [List.take_add_one, h, List.filter_append]
  simp [hq]
theorem filt_no {l : List Plate} {k : Nat} {p q : Plate} (h : l[k]? = some q) (hq : q = p) : (l.take (k + 1)).filter (notP p) = (l.take k).filter (notP p) := by
  rw [List.take_add_one, h, List.filter_append]
  simp [hq]
theorem set_av {xs : List Cart} {i : Nat} {R : List AV} {c' : Cart} (h : R = c'.av) : (xs.map Cart.av).set i R = (xs.set i c').map Cart.av := by rw [h, List.map_set]
set_option maxHeartbeats 4000000 in
theorem C29 {xs : List Cart} {p : Plate} (hx : xs.length ≤ 1000) (hb : ∀ c ∈ xs, c.plates.length ≤ 1000) : Fn Try.prog 29 [] [.ro (xs.map Cart.av), .agg p.av] [.ro ((takeV xs p).1.map Cart.av), .v (.int .i64 (takeV xs p).2)] [] := by
  refine Spec.body Try.func29 rfl Try.ntmps29 (by simp) rfl ?_; intro S0 own0 v0 w0
  (refine AW.seq_k ?_; intro K hK)
  refine AW.region ?_
  refine awJ (op_box rfl rfl rfl sz25 rfl) ?_; (try simp only [nA, Nat.reduceBEq, Nat.reduceEqDiff, ↓reduceIte, Nat.reduceAdd, Nat.reduceSub])
  refine awP (op_assign rfl rfl) ?_; (try simp only [nA, Nat.reduceBEq, Nat.reduceEqDiff, ↓reduceIte, Nat.reduceAdd, Nat.reduceSub])
  refine awP (op_assign rfl rfl) ?_; (try simp only [nA, Nat.reduceBEq, Nat.reduceEqDiff, ↓reduceIte, Nat.reduceAdd, Nat.reduceSub])
  refine AWL.nil ?_
  (refine hK _ ?_; clear hK K; (try simp only [nA, Nat.reduceBEq, Nat.reduceEqDiff, ↓reduceIte, Nat.reduceAdd, Nat.reduceSub]))
  (refine AW.seq_k ?_; intro K hK)
  (refine AW.seq_k ?_; intro K hK)
  refine AW.region ?_
  refine awP (op_move rfl rfl) ?_; (try simp only [nA, Nat.reduceBEq, Nat.reduceEqDiff, ↓reduceIte, Nat.reduceAdd, Nat.reduceSub])
  refine awJ (OpQ.j (op_callQ (b := true) rfl en15 (C15 (xs := xs) hx hb) (RL.cons (by first | exact View.same rfl | exact View.nil | exact View.rof | exact View.src .ro | exact View.src .rof | exact View.src (.sl rfl rfl) | exact View.ptr rfl rfl rfl) (RL.nil)) rfl)) ?_; (try simp only [nA, Nat.reduceBEq, Nat.reduceEqDiff, ↓reduceIte, Nat.reduceAdd, Nat.reduceSub])
  refine awP (op_assign rfl rfl) ?_; (try simp only [nA, Nat.reduceBEq, Nat.reduceEqDiff, ↓reduceIte, Nat.reduceAdd, Nat.reduceSub])
  refine AWL.nil ?_
  (refine hK _ ?_; clear hK K; (try simp only [nA, Nat.reduceBEq, Nat.reduceEqDiff, ↓reduceIte, Nat.reduceAdd, Nat.reduceSub]))
  (refine AW.seq_k ?_; intro K hK)
  refine AW.region ?_
  refine awP (op_move rfl rfl) ?_; (try simp only [nA, Nat.reduceBEq, Nat.reduceEqDiff, ↓reduceIte, Nat.reduceAdd, Nat.reduceSub])
  (first | refine awP (op_neq rfl rfl rfl) ?_ | refine awP (op_sneq rfl rfl rfl) ?_); (try simp only [nA, Nat.reduceBEq, Nat.reduceEqDiff, ↓reduceIte, Nat.reduceAdd, Nat.reduceSub])
  refine AWL.nil ?_
  (refine hK _ ?_; clear hK K; (try simp only [nA, Nat.reduceBEq, Nat.reduceEqDiff, ↓reduceIte, Nat.reduceAdd, Nat.reduceSub]))
  refine AW.cond rfl rfl rfl (fun hc => ?_) (fun hc => ?_)
  ·
   (try simp only [hcS] at hc); have hc1 := hc; skip
   (refine AW.seq_k ?_; intro K hK)
   refine AW.region ?_
   refine awP (op_move rfl rfl) ?_; (try simp only [nA, Nat.reduceBEq, Nat.reduceEqDiff, ↓reduceIte, Nat.reduceAdd, Nat.reduceSub])
   refine awP (op_assign rfl rfl) ?_; (try simp only [nA, Nat.reduceBEq, Nat.reduceEqDiff, ↓reduceIte, Nat.reduceAdd, Nat.reduceSub])
   refine awP (op_assign rfl rfl) ?_; (try simp only [nA, Nat.reduceBEq, Nat.reduceEqDiff, ↓reduceIte, Nat.reduceAdd, Nat.reduceSub])
   refine AWL.nil ?_
   (refine hK _ ?_; clear hK K; (try simp only [nA, Nat.reduceBEq, Nat.reduceEqDiff, ↓reduceIte, Nat.reduceAdd, Nat.reduceSub]))
   refine AW.gh (Gh.nil (e := 48) 4 (Nat.le_of_ble_eq_true rfl) rfl sz48) ?_; (try simp only [nA, Nat.reduceBEq, Nat.reduceEqDiff, ↓reduceIte, Nat.reduceAdd, Nat.reduceSub]); refine AW.gh (Gh.freeze 4 (Nat.le_of_ble_eq_true rfl) rfl rfl (by simp) (es' := ([] : List Cart).map Cart.av) rfl) ?_; (try simp only [nA, Nat.reduceBEq, Nat.reduceEqDiff, ↓reduceIte, Nat.reduceAdd, Nat.reduceSub])
   refine AW.ret ?_; (try simp only [thenE, inBlk, Nat.reduceEqDiff, ↓reduceIte]); rw [show takeV xs p = ([], chkL xs) by unfold takeV; rw [if_pos (by simpa using hc)]]; exact RQ.of0 rfl (.tmp (Nat.le_of_ble_eq_true rfl) rfl rfl (.tmp (Nat.le_of_ble_eq_true rfl) rfl rfl .nil))
  ·
   (try simp only [hcS] at hc); have hc1 := hc; have h0 : ¬ chkL xs ≠ 0 := (by simpa using hc1); have hinv := chkL_iff.1 (by simpa using hc1)
   refine AW.skip ?_
   (refine hK _ ?_; clear hK K; (try simp only [nA, Nat.reduceBEq, Nat.reduceEqDiff, ↓reduceIte, Nat.reduceAdd, Nat.reduceSub]))
   (refine AW.seq_k ?_; intro K hK)
   refine AW.region ?_
   refine awP (op_move rfl rfl) ?_; (try simp only [nA, Nat.reduceBEq, Nat.reduceEqDiff, ↓reduceIte, Nat.reduceAdd, Nat.reduceSub])
   (first | refine awR (op_load_ptr rfl rfl rfl rfl ag25 sz25 (Nat.le_of_ble_eq_true rfl) rfl) ?_ | refine awR (op_load_rop rfl rfl ag25 sz25 (Nat.le_of_ble_eq_true rfl) (by decide) rfl) ?_); (try simp only [nA, Nat.reduceBEq, Nat.reduceEqDiff, ↓reduceIte, Nat.reduceAdd, Nat.reduceSub])
   refine awJ (op_call (b := false) rfl en18 (C18 (xs := xs) (p := p) hx hb) (RL.cons (by first | exact View.same rfl | exact View.nil | exact View.rof | exact View.src .ro | exact View.src .rof | exact View.src (.sl rfl rfl) | exact View.ptr rfl rfl rfl) (RL.cons (by first | exact View.same rfl | exact View.nil | exact View.rof | exact View.src .ro | exact View.src .rof | exact View.src (.sl rfl rfl) | exact View.ptr rfl rfl rfl) (RL.nil))) rfl (fun h => by cases h) rfl rfl) ?_; (try simp only [nA, Nat.reduceBEq, Nat.reduceEqDiff, ↓reduceIte, Nat.reduceAdd, Nat.reduceSub])
   refine awP (op_move rfl rfl) ?_; (try simp only [nA, Nat.reduceBEq, Nat.reduceEqDiff, ↓reduceIte, Nat.reduceAdd, Nat.reduceSub])
   refine awP (op_extract rfl rfl rfl) ?_; (try simp only [nA, Nat.reduceBEq, Nat.reduceEqDiff, ↓reduceIte, Nat.reduceAdd, Nat.reduceSub])
   refine awP (op_extract rfl rfl rfl) ?_; (try simp only [nA, Nat.reduceBEq, Nat.reduceEqDiff, ↓reduceIte, Nat.reduceAdd, Nat.reduceSub])
   refine awP (op_assign rfl rfl) ?_; (try simp only [nA, Nat.reduceBEq, Nat.reduceEqDiff, ↓reduceIte, Nat.reduceAdd, Nat.reduceSub])
   refine awP (op_assign rfl rfl) ?_; (try simp only [nA, Nat.reduceBEq, Nat.reduceEqDiff, ↓reduceIte, Nat.reduceAdd, Nat.reduceSub])
   refine AWL.nil ?_
   (refine hK _ ?_; clear hK K; (try simp only [nA, Nat.reduceBEq, Nat.reduceEqDiff, ↓reduceIte, Nat.reduceAdd, Nat.reduceSub]))
   (refine AW.seq_k ?_; intro K hK)
   (refine AW.seq_k ?_; intro K hK)
   refine AW.region ?_
   refine awP (op_move rfl rfl) ?_; (try simp only [nA, Nat.reduceBEq, Nat.reduceEqDiff, ↓reduceIte, Nat.reduceAdd, Nat.reduceSub])
   refine awP (op_not rfl rfl rfl) ?_; (try simp only [nA, Nat.reduceBEq, Nat.reduceEqDiff, ↓reduceIte, Nat.reduceAdd, Nat.reduceSub])
   refine AWL.nil ?_
   (refine hK _ ?_; clear hK K; (try simp only [nA, Nat.reduceBEq, Nat.reduceEqDiff, ↓reduceIte, Nat.reduceAdd, Nat.reduceSub]))
   refine AW.cond rfl rfl rfl (fun hc => ?_) (fun hc => ?_)
   ·
    (try simp only [hcS] at hc); have hc2 := hc; skip
    (refine AW.seq_k ?_; intro K hK)
    refine AW.region ?_
    refine awP (op_assign rfl rfl) ?_; (try simp only [nA, Nat.reduceBEq, Nat.reduceEqDiff, ↓reduceIte, Nat.reduceAdd, Nat.reduceSub])
    refine awP (op_assign rfl rfl) ?_; (try simp only [nA, Nat.reduceBEq, Nat.reduceEqDiff, ↓reduceIte, Nat.reduceAdd, Nat.reduceSub])
    refine AWL.nil ?_
    (refine hK _ ?_; clear hK K; (try simp only [nA, Nat.reduceBEq, Nat.reduceEqDiff, ↓reduceIte, Nat.reduceAdd, Nat.reduceSub]))
    refine AW.gh (Gh.nil (e := 48) 4 (Nat.le_of_ble_eq_true rfl) rfl sz48) ?_; (try simp only [nA, Nat.reduceBEq, Nat.reduceEqDiff, ↓reduceIte, Nat.reduceAdd, Nat.reduceSub]); refine AW.gh (Gh.freeze 4 (Nat.le_of_ble_eq_true rfl) rfl rfl (by simp) (es' := ([] : List Cart).map Cart.av) rfl) ?_; (try simp only [nA, Nat.reduceBEq, Nat.reduceEqDiff, ↓reduceIte, Nat.reduceAdd, Nat.reduceSub])
    refine AW.ret ?_; (try simp only [thenE, inBlk, Nat.reduceEqDiff, ↓reduceIte]); rw [show takeV xs p = ([], 6) by unfold takeV; rw [if_neg h0, if_pos (by simpa using hc)]]; exact RQ.of0 rfl (.tmp (Nat.le_of_ble_eq_true rfl) rfl rfl (.tmp (Nat.le_of_ble_eq_true rfl) rfl rfl .nil))
   ·
    (try simp only [hcS] at hc); have hc2 := hc; have hf : (findV xs p).2 = true := (by simpa using hc2); have hlt : onN xs p < xs.length := onN_lt.2 (findV_snd.1 hf); have hfv : (findV xs p).1 = (xs.getD (onN xs p) default).number := (by unfold findV; rw [if_pos hlt]); have hnn : numI xs (findV xs p).1 = (onN xs p : Nat) := (by rw [hfv]; unfold numI; rw [num_at hinv hlt, if_pos hlt]); have h1 : ¬ (findV xs p).2 = false := (by rw [hf]; simp); obtain ⟨i, hi⟩ : ∃ i, onN xs p = i := ⟨_, rfl⟩; rw [hi] at hlt hnn; obtain ⟨c, hci⟩ : ∃ c, xs[i]? = some c := ⟨xs[i], List.getElem?_eq_getElem hlt⟩; have hcl := hb c (List.mem_of_getElem? hci)
    refine AW.skip ?_
    (refine hK _ ?_; clear hK K; (try simp only [nA, Nat.reduceBEq, Nat.reduceEqDiff, ↓reduceIte, Nat.reduceAdd, Nat.reduceSub]))
    (refine AW.seq_k ?_; intro K hK)
    refine AW.region ?_
    refine awP (op_move rfl rfl) ?_; (try simp only [nA, Nat.reduceBEq, Nat.reduceEqDiff, ↓reduceIte, Nat.reduceAdd, Nat.reduceSub])
    refine awP (op_move rfl rfl) ?_; (try simp only [nA, Nat.reduceBEq, Nat.reduceEqDiff, ↓reduceIte, Nat.reduceAdd, Nat.reduceSub])
    refine awJ (OpQ.j (op_callQ (b := true) rfl en51 (C51 (xs := xs) (n := (findV xs p).1)) (RL.cons (by first | exact View.same rfl | exact View.nil | exact View.rof | exact View.src .ro | exact View.src .rof | exact View.src (.sl rfl rfl) | exact View.ptr rfl rfl rfl) (RL.cons (by first | exact View.same rfl | exact View.nil | exact View.rof | exact View.src .ro | exact View.src .rof | exact View.src (.sl rfl rfl) | exact View.ptr rfl rfl rfl) (RL.nil))) rfl)) ?_; (try simp only [nA, Nat.reduceBEq, Nat.reduceEqDiff, ↓reduceIte, Nat.reduceAdd, Nat.reduceSub])
    refine awP (op_assign rfl rfl) ?_; (try simp only [nA, Nat.reduceBEq, Nat.reduceEqDiff, ↓reduceIte, Nat.reduceAdd, Nat.reduceSub])
    refine AWL.nil ?_
    (refine hK _ ?_; clear hK K; (try simp only [nA, Nat.reduceBEq, Nat.reduceEqDiff, ↓reduceIte, Nat.reduceAdd, Nat.reduceSub]))
    (refine AW.seq_k ?_; intro K hK)
    (refine AW.seq_k ?_; intro K hK)
    refine AW.region ?_
    refine awP (op_move rfl rfl) ?_; (try simp only [nA, Nat.reduceBEq, Nat.reduceEqDiff, ↓reduceIte, Nat.reduceAdd, Nat.reduceSub])
    refine awP (op_move rfl rfl) ?_; (try simp only [nA, Nat.reduceBEq, Nat.reduceEqDiff, ↓reduceIte, Nat.reduceAdd, Nat.reduceSub])
    refine awP (op_ia_ro i rfl (.inl rfl) rfl Try.underlying22 (by rw [hnn]) (get_of hci) (by exact sz48) (Nat.le_of_ble_eq_true rfl)) ?_; (try simp only [nA, Nat.reduceBEq, Nat.reduceEqDiff, ↓reduceIte, Nat.reduceAdd, Nat.reduceSub])
    (first | refine awP (op_fa_ptr rfl rfl rfl fl48_5 (by exact sz4) (by decide) rfl) ?_ | refine awP (op_fa_rop rfl rfl fl48_5 (by exact sz4) (by decide) (Nat.le_of_ble_eq_true rfl) rfl) ?_); (try simp only [nA, Nat.reduceBEq, Nat.reduceEqDiff, ↓reduceIte, Nat.reduceAdd, Nat.reduceSub])
    (first | refine awR (op_load_ptr1 rfl rfl rfl rfl ag4 rfl rfl) ?_ | refine awR (op_load_rop1 rfl rfl ag4) ?_); (try simp only [nA, Nat.reduceBEq, Nat.reduceEqDiff, ↓reduceIte, Nat.reduceAdd, Nat.reduceSub])
    refine AWL.nil ?_
    (refine hK _ ?_; clear hK K; (try simp only [nA, Nat.reduceBEq, Nat.reduceEqDiff, ↓reduceIte, Nat.reduceAdd, Nat.reduceSub]))
    refine AW.cond rfl rfl rfl (fun hc => ?_) (fun hc => ?_)
    ·
     (try simp only [hcS] at hc); have hc3 := hc; skip
     (refine AW.seq_k ?_; intro K hK)
     refine AW.region ?_
     refine awP (op_assign rfl rfl) ?_; (try simp only [nA, Nat.reduceBEq, Nat.reduceEqDiff, ↓reduceIte, Nat.reduceAdd, Nat.reduceSub])
     refine awP (op_assign rfl rfl) ?_; (try simp only [nA, Nat.reduceBEq, Nat.reduceEqDiff, ↓reduceIte, Nat.reduceAdd, Nat.reduceSub])
     refine AWL.nil ?_
     (refine hK _ ?_; clear hK K; (try simp only [nA, Nat.reduceBEq, Nat.reduceEqDiff, ↓reduceIte, Nat.reduceAdd, Nat.reduceSub]))
     refine AW.gh (Gh.nil (e := 48) 4 (Nat.le_of_ble_eq_true rfl) rfl sz48) ?_; (try simp only [nA, Nat.reduceBEq, Nat.reduceEqDiff, ↓reduceIte, Nat.reduceAdd, Nat.reduceSub]); refine AW.gh (Gh.freeze 4 (Nat.le_of_ble_eq_true rfl) rfl rfl (by simp) (es' := ([] : List Cart).map Cart.av) rfl) ?_; (try simp only [nA, Nat.reduceBEq, Nat.reduceEqDiff, ↓reduceIte, Nat.reduceAdd, Nat.reduceSub])
     refine AW.ret ?_; (try simp only [thenE, inBlk, Nat.reduceEqDiff, ↓reduceIte]); rw [show takeV xs p = ([], 7) by unfold takeV; rw [if_neg h0, if_neg h1, hi, get_d hci, if_pos (by simpa using hc)]]; exact RQ.of0 rfl (.tmp (Nat.le_of_ble_eq_true rfl) rfl rfl (.tmp (Nat.le_of_ble_eq_true rfl) rfl rfl .nil))
    ·
     (try simp only [hcS] at hc); have hc3 := hc; skip
     refine AW.skip ?_
     (refine hK _ ?_; clear hK K; (try simp only [nA, Nat.reduceBEq, Nat.reduceEqDiff, ↓reduceIte, Nat.reduceAdd, Nat.reduceSub]))
     (refine AW.seq_k ?_; intro K hK)
     refine AW.region ?_
     refine awP (op_move rfl rfl) ?_; (try simp only [nA, Nat.reduceBEq, Nat.reduceEqDiff, ↓reduceIte, Nat.reduceAdd, Nat.reduceSub])
     refine awJ (op_call (b := false) rfl en36 (C36 (xs := xs) (by omega) (fun c hc => Nat.le_trans (hb c hc) (by omega))) (RL.cons (by first | exact View.same rfl | exact View.nil | exact View.rof | exact View.src .ro | exact View.src .rof | exact View.src (.sl rfl rfl) | exact View.ptr rfl rfl rfl) (RL.nil)) rfl (fun h => by cases h) rfl rfl) ?_; (try simp only [nA, Nat.reduceBEq, Nat.reduceEqDiff, ↓reduceIte, Nat.reduceAdd, Nat.reduceSub])
     refine awP (op_assign rfl rfl) ?_; (try simp only [nA, Nat.reduceBEq, Nat.reduceEqDiff, ↓reduceIte, Nat.reduceAdd, Nat.reduceSub])
     refine AWL.nil ?_
     (refine hK _ ?_; clear hK K; (try simp only [nA, Nat.reduceBEq, Nat.reduceEqDiff, ↓reduceIte, Nat.reduceAdd, Nat.reduceSub]))
     (refine AW.seq_k ?_; intro K hK)
     refine AW.region ?_
     refine awP (op_assign rfl rfl) ?_; (try simp only [nA, Nat.reduceBEq, Nat.reduceEqDiff, ↓reduceIte, Nat.reduceAdd, Nat.reduceSub])
     refine AWL.nil ?_
     (refine hK _ ?_; clear hK K; (try simp only [nA, Nat.reduceBEq, Nat.reduceEqDiff, ↓reduceIte, Nat.reduceAdd, Nat.reduceSub]))
     (refine AW.seq_k ?_; intro K hK)
     (refine AW.seq_k ?_; intro K hK)
     refine AW.region ?_
     refine awP (op_assign rfl rfl) ?_; (try simp only [nA, Nat.reduceBEq, Nat.reduceEqDiff, ↓reduceIte, Nat.reduceAdd, Nat.reduceSub])
     refine AWL.nil ?_
     (refine hK _ ?_; clear hK K; (try simp only [nA, Nat.reduceBEq, Nat.reduceEqDiff, ↓reduceIte, Nat.reduceAdd, Nat.reduceSub]))
     refine AW.block ?_
     refine AW.gh (Gh.freezeR (r := 1) rfl (oav_flat2 xs) (es2 := xs.map Cart.av) (oav_fz xs)) ?_; (try simp only [nA, Nat.reduceBEq, Nat.reduceEqDiff, ↓reduceIte, Nat.reduceAdd, Nat.reduceSub]); refine AW.gh (Gh.nil (e := 25) 11 (Nat.le_of_ble_eq_true rfl) rfl sz25) ?_; (try simp only [nA, Nat.reduceBEq, Nat.reduceEqDiff, ↓reduceIte, Nat.reduceAdd, Nat.reduceSub]); refine AW.loopI (fun (q : Nat × Nat × Nat) => [(3, .ptr 0 1 0 0), (9, .v (.int .i64 (numI xs (findV xs p).1))), (10, .sl 1 2 0 xs.length), (11, .sl 2 q.2.1 0 ((c.plates.take q.1).filter (notP p)).length), (12, .v (.int .i64 (q.1 : Nat)))]) (fun q => ⟨[(1, .own 25 [p.av]), (2, .own 48 (xs.map Cart.av)), (q.2.1, .own 25 (((c.plates.take q.1).filter (notP p)).map Plate.av))], q.2.2⟩) (fun q => q.1 ≤ c.plates.length) (fun q => c.plates.length - q.1) (0, 3, 4) (by simp) ⟨rfl, rfl, (by first | rfl | (simp; done) | (simp; rfl)), (by first | rfl | (simp; done) | (simp; rfl)), rfl, trivial⟩ (by first | rfl | (simp; done) | (simp; rfl)) ?_; rintro ⟨k, v, e⟩ ρ hk; simp only at hk; simp only [updL]; (try simp only [nA, Nat.reduceBEq, Nat.reduceEqDiff, ↓reduceIte, Nat.reduceAdd, Nat.reduceSub])
     (refine AW.seq_k ?_; intro K hK)
     (refine AW.seq_k ?_; intro K hK)
     refine AW.region ?_
     refine awP (op_move rfl rfl) ?_; (try simp only [nA, Nat.reduceBEq, Nat.reduceEqDiff, ↓reduceIte, Nat.reduceAdd, Nat.reduceSub])
     refine awP (op_move rfl rfl) ?_; (try simp only [nA, Nat.reduceBEq, Nat.reduceEqDiff, ↓reduceIte, Nat.reduceAdd, Nat.reduceSub])
     refine awP (op_move rfl rfl) ?_; (try simp only [nA, Nat.reduceBEq, Nat.reduceEqDiff, ↓reduceIte, Nat.reduceAdd, Nat.reduceSub])
     refine awP (op_ia_sl i 9 rfl rfl rfl rfl Try.underlying22 (by rw [hnn]) hlt (by exact sz48) (Nat.zero_add _)) ?_; (try simp only [nA, Nat.reduceBEq, Nat.reduceEqDiff, ↓reduceIte, Nat.reduceAdd, Nat.reduceSub])
     (first | refine awP (op_fa_ptr rfl rfl rfl fl48_4 (by exact sz35) (by decide) rfl) ?_ | refine awP (op_fa_rop rfl rfl fl48_4 (by exact sz35) (by decide) (Nat.le_of_ble_eq_true rfl) rfl) ?_); (try simp only [nA, Nat.reduceBEq, Nat.reduceEqDiff, ↓reduceIte, Nat.reduceAdd, Nat.reduceSub])
     (first | refine awR (op_load_ptr1 rfl rfl rfl (get_of (f := Cart.av) hci) ag35 rfl rfl) ?_ | refine awR (op_load_rop1 rfl rfl ag35) ?_); (try simp only [nA, Nat.reduceBEq, Nat.reduceEqDiff, ↓reduceIte, Nat.reduceAdd, Nat.reduceSub])
     (first | refine awP (op_len_ro rfl rfl Try.underlying35 (by first | exact .inr (.inl ⟨_, rfl, rfl⟩) | exact .inl rfl | exact .inr (.inr (.inl ⟨_, rfl, rfl⟩)) | exact .inr (.inr (.inr ⟨rfl, rfl⟩)))) ?_ | refine awP (op_len_sl rfl rfl rfl Try.underlying35) ?_ | refine awP (op_len_str rfl rfl Try.underlying35) ?_); (try simp only [nA, Nat.reduceBEq, Nat.reduceEqDiff, ↓reduceIte, Nat.reduceAdd, Nat.reduceSub])
     refine awP (op_lss rfl rfl rfl) ?_; (try simp only [nA, Nat.reduceBEq, Nat.reduceEqDiff, ↓reduceIte, Nat.reduceAdd, Nat.reduceSub])
     refine AWL.nil ?_
     (refine hK _ ?_; clear hK K; (try simp only [nA, Nat.reduceBEq, Nat.reduceEqDiff, ↓reduceIte, Nat.reduceAdd, Nat.reduceSub]))
     refine AW.cond rfl rfl rfl (fun hc => ?_) (fun hc => ?_)
     ·
      (try simp only [hcS] at hc); have hc4 := hc; have hkl : k < c.plates.length := (by simpa using hc4); obtain ⟨q, hqk⟩ : ∃ q, c.plates[k]? = some q := ⟨c.plates[k], List.getElem?_eq_getElem hkl⟩; have hfl := List.length_filter_le (notP p) (c.plates.take k); have htl : (c.plates.take k).length ≤ 1000 := (by simp; omega)
      refine AW.skip ?_
      (refine hK _ ?_; clear hK K; (try simp only [nA, Nat.reduceBEq, Nat.reduceEqDiff, ↓reduceIte, Nat.reduceAdd, Nat.reduceSub]))
      (refine AW.seq_k ?_; intro K hK)
      refine AW.block ?_
      (refine AW.seq_k ?_; intro K hK)
      refine AW.quiet mix (by kernel_rfl) ?_
      refine aqP (op_move rfl rfl) ?_; (try simp only [nA, Nat.reduceBEq, Nat.reduceEqDiff, ↓reduceIte, Nat.reduceAdd, Nat.reduceSub])
      refine aqP (op_move rfl rfl) ?_; (try simp only [nA, Nat.reduceBEq, Nat.reduceEqDiff, ↓reduceIte, Nat.reduceAdd, Nat.reduceSub])
      refine aqP (op_ia_sl i 9 rfl rfl rfl rfl Try.underlying22 (by rw [hnn]) hlt (by exact sz48) (Nat.zero_add _)) ?_; (try simp only [nA, Nat.reduceBEq, Nat.reduceEqDiff, ↓reduceIte, Nat.reduceAdd, Nat.reduceSub])
      (first | refine aqP (op_fa_ptr rfl rfl rfl fl48_4 (by exact sz35) (by decide) rfl) ?_ | refine aqP (op_fa_rop rfl rfl fl48_4 (by exact sz35) (by decide) (Nat.le_of_ble_eq_true rfl) rfl) ?_); (try simp only [nA, Nat.reduceBEq, Nat.reduceEqDiff, ↓reduceIte, Nat.reduceAdd, Nat.reduceSub])
      (first | refine aqR (op_load_ptr1 rfl rfl rfl (get_of (f := Cart.av) hci) ag35 rfl rfl) ?_ | refine aqR (op_load_rop1 rfl rfl ag35) ?_); (try simp only [nA, Nat.reduceBEq, Nat.reduceEqDiff, ↓reduceIte, Nat.reduceAdd, Nat.reduceSub])
      refine aqP (op_move rfl rfl) ?_; (try simp only [nA, Nat.reduceBEq, Nat.reduceEqDiff, ↓reduceIte, Nat.reduceAdd, Nat.reduceSub])
      (first | refine aqP (op_ia_ro k rfl (.inl rfl) rfl Try.underlying35 rfl (get_of hqk) (by exact sz25) (Nat.le_of_ble_eq_true rfl)) ?_ | refine aqP (op_ia_sl _ _ rfl rfl rfl rfl Try.underlying35 rfl (by omega) (by exact sz25) rfl) ?_); (try simp only [nA, Nat.reduceBEq, Nat.reduceEqDiff, ↓reduceIte, Nat.reduceAdd, Nat.reduceSub])
      (first | refine aqR (op_load_ptr rfl rfl rfl rfl ag25 sz25 (Nat.le_of_ble_eq_true rfl) rfl) ?_ | refine aqR (op_load_rop rfl rfl ag25 sz25 (Nat.le_of_ble_eq_true rfl) (by decide) rfl) ?_); (try simp only [nA, Nat.reduceBEq, Nat.reduceEqDiff, ↓reduceIte, Nat.reduceAdd, Nat.reduceSub])
      (first | refine aqR (op_load_ptr rfl rfl rfl rfl ag25 sz25 (Nat.le_of_ble_eq_true rfl) rfl) ?_ | refine aqR (op_load_rop rfl rfl ag25 sz25 (Nat.le_of_ble_eq_true rfl) (by decide) rfl) ?_); (try simp only [nA, Nat.reduceBEq, Nat.reduceEqDiff, ↓reduceIte, Nat.reduceAdd, Nat.reduceSub])
      refine aqP (op_neq25 rfl rfl rfl) ?_; (try simp only [nA, Nat.reduceBEq, Nat.reduceEqDiff, ↓reduceIte, Nat.reduceAdd, Nat.reduceSub])
      refine AQ.nil ?_
      (refine hK _ ?_; clear hK K; (try simp only [nA, Nat.reduceBEq, Nat.reduceEqDiff, ↓reduceIte, Nat.reduceAdd, Nat.reduceSub]))
      refine AW.cond rfl rfl rfl (fun hc => ?_) (fun hc => ?_)
      ·
       (try simp only [hcS] at hc); have hc5 := hc; skip
       refine AW.region ?_
       refine awP (op_move rfl rfl) ?_; (try simp only [nA, Nat.reduceBEq, Nat.reduceEqDiff, ↓reduceIte, Nat.reduceAdd, Nat.reduceSub])
       refine awP (op_move rfl rfl) ?_; (try simp only [nA, Nat.reduceBEq, Nat.reduceEqDiff, ↓reduceIte, Nat.reduceAdd, Nat.reduceSub])
       refine awP (op_move rfl rfl) ?_; (try simp only [nA, Nat.reduceBEq, Nat.reduceEqDiff, ↓reduceIte, Nat.reduceAdd, Nat.reduceSub])
       refine awP (op_ia_sl i 9 rfl rfl rfl rfl Try.underlying22 (by rw [hnn]) hlt (by exact sz48) (Nat.zero_add _)) ?_; (try simp only [nA, Nat.reduceBEq, Nat.reduceEqDiff, ↓reduceIte, Nat.reduceAdd, Nat.reduceSub])
       (first | refine awP (op_fa_ptr rfl rfl rfl fl48_4 (by exact sz35) (by decide) rfl) ?_ | refine awP (op_fa_rop rfl rfl fl48_4 (by exact sz35) (by decide) (Nat.le_of_ble_eq_true rfl) rfl) ?_); (try simp only [nA, Nat.reduceBEq, Nat.reduceEqDiff, ↓reduceIte, Nat.reduceAdd, Nat.reduceSub])
       (first | refine awR (op_load_ptr1 rfl rfl rfl (get_of (f := Cart.av) hci) ag35 rfl rfl) ?_ | refine awR (op_load_rop1 rfl rfl ag35) ?_); (try simp only [nA, Nat.reduceBEq, Nat.reduceEqDiff, ↓reduceIte, Nat.reduceAdd, Nat.reduceSub])
       refine awP (op_move rfl rfl) ?_; (try simp only [nA, Nat.reduceBEq, Nat.reduceEqDiff, ↓reduceIte, Nat.reduceAdd, Nat.reduceSub])
       (first | refine awP (op_ia_ro k rfl (.inl rfl) rfl Try.underlying35 rfl (get_of hqk) (by exact sz25) (Nat.le_of_ble_eq_true rfl)) ?_ | refine awP (op_ia_sl _ _ rfl rfl rfl rfl Try.underlying35 rfl (by omega) (by exact sz25) rfl) ?_); (try simp only [nA, Nat.reduceBEq, Nat.reduceEqDiff, ↓reduceIte, Nat.reduceAdd, Nat.reduceSub])
       (first | refine awR (op_load_ptr rfl rfl rfl rfl ag25 sz25 (Nat.le_of_ble_eq_true rfl) rfl) ?_ | refine awR (op_load_rop rfl rfl ag25 sz25 (Nat.le_of_ble_eq_true rfl) (by decide) rfl) ?_); (try simp only [nA, Nat.reduceBEq, Nat.reduceEqDiff, ↓reduceIte, Nat.reduceAdd, Nat.reduceSub])
       refine awJ (OpJ.frz (op_buildSlice rfl [(0, q.av)] [q.av] Try.underlying35 ze25 rfl (by simp) rfl (by simp) rfl (Nat.le_of_ble_eq_true rfl) (by simp [maxLen])) (pav_flat [q]) rfl) ?_; (try simp only [nA, Nat.reduceBEq, Nat.reduceEqDiff, ↓reduceIte, Nat.reduceAdd, Nat.reduceSub]); skip; (try simp only [nA, Nat.reduceBEq, Nat.reduceEqDiff, ↓reduceIte, Nat.reduceAdd, Nat.reduceSub])
       refine awJ (op_app (rows := [q.av]) rfl rfl rfl rfl (by simp) .ro Try.underlying35 ze25 (by decide) (by simp) (by simp; omega) (by decide) (es' := ((c.plates.take (k + 1)).filter (notP p)).map Plate.av) (by rw [filt_yes hqk hc5]; simp) (n := ((c.plates.take (k + 1)).filter (notP p)).length) (by rw [filt_yes hqk hc5]; simp)) ?_; (try simp only [nA, Nat.reduceBEq, Nat.reduceEqDiff, ↓reduceIte, Nat.reduceAdd, Nat.reduceSub])
       refine awP (op_assign rfl rfl) ?_; (try simp only [nA, Nat.reduceBEq, Nat.reduceEqDiff, ↓reduceIte, Nat.reduceAdd, Nat.reduceSub])
       refine AWL.nil ?_
       (try simp only [thenE, inBlk, Nat.reduceEqDiff, ↓reduceIte])
       (refine hK _ ?_; clear hK K; (try simp only [nA, Nat.reduceBEq, Nat.reduceEqDiff, ↓reduceIte, Nat.reduceAdd, Nat.reduceSub]))
       refine AW.region ?_
       refine awP (op_move rfl rfl) ?_; (try simp only [nA, Nat.reduceBEq, Nat.reduceEqDiff, ↓reduceIte, Nat.reduceAdd, Nat.reduceSub])
       (first | refine awP (op_addi rfl rfl rfl (by omega)) ?_ | refine awP (op_add rfl rfl rfl rfl) ?_); (try simp only [nA, Nat.reduceBEq, Nat.reduceEqDiff, ↓reduceIte, Nat.reduceAdd, Nat.reduceSub])
       refine awP (op_assign rfl rfl) ?_; (try simp only [nA, Nat.reduceBEq, Nat.reduceEqDiff, ↓reduceIte, Nat.reduceAdd, Nat.reduceSub])
       skip
       refine AWL.nil ?_
       refine ⟨(k + 1, _, _), by dsimp only; omega, by dsimp only; omega, ⟨rfl, rfl, rfl, rfl, rfl, trivial⟩, (by first | rfl | trivial), (by first | rfl | trivial)⟩
      ·
       (try simp only [hcS] at hc); have hc5 := hc; skip
       refine AW.skip ?_
       (try simp only [thenE, inBlk, Nat.reduceEqDiff, ↓reduceIte])
       (refine hK _ ?_; clear hK K; (try simp only [nA, Nat.reduceBEq, Nat.reduceEqDiff, ↓reduceIte, Nat.reduceAdd, Nat.reduceSub]))
       refine AW.region ?_
       refine awP (op_move rfl rfl) ?_; (try simp only [nA, Nat.reduceBEq, Nat.reduceEqDiff, ↓reduceIte, Nat.reduceAdd, Nat.reduceSub])
       (first | refine awP (op_addi rfl rfl rfl (by omega)) ?_ | refine awP (op_add rfl rfl rfl rfl) ?_); (try simp only [nA, Nat.reduceBEq, Nat.reduceEqDiff, ↓reduceIte, Nat.reduceAdd, Nat.reduceSub])
       refine awP (op_assign rfl rfl) ?_; (try simp only [nA, Nat.reduceBEq, Nat.reduceEqDiff, ↓reduceIte, Nat.reduceAdd, Nat.reduceSub])
       skip
       refine AWL.nil ?_
       refine ⟨(k + 1, v, _), by dsimp only; omega, by dsimp only; omega, ⟨rfl, rfl, rfl, (by rw [filt_no hqk hc5]; rfl), rfl, trivial⟩, (by rw [filt_no hqk hc5]), (by first | rfl | trivial)⟩
     ·
      (try simp only [hcS] at hc); have hc4 := hc; obtain rfl : k = c.plates.length := (by simp at hc4; omega); simp only [List.take_length]
      refine AW.exit ?_; (try simp only [thenE, inBlk, Nat.reduceEqDiff, ↓reduceIte])
      clear hK K
      (refine hK _ ?_; clear hK K; (try simp only [nA, Nat.reduceBEq, Nat.reduceEqDiff, ↓reduceIte, Nat.reduceAdd, Nat.reduceSub]))
      (refine AW.seq_k ?_; intro K hK)
      refine AW.region ?_
      refine awP (op_move rfl rfl) ?_; (try simp only [nA, Nat.reduceBEq, Nat.reduceEqDiff, ↓reduceIte, Nat.reduceAdd, Nat.reduceSub])
      refine awP (op_move rfl rfl) ?_; (try simp only [nA, Nat.reduceBEq, Nat.reduceEqDiff, ↓reduceIte, Nat.reduceAdd, Nat.reduceSub])
      refine awP (op_move rfl rfl) ?_; (try simp only [nA, Nat.reduceBEq, Nat.reduceEqDiff, ↓reduceIte, Nat.reduceAdd, Nat.reduceSub])
      refine awP (op_ia_sl i 9 rfl rfl rfl rfl Try.underlying22 (by rw [hnn]) hlt (by exact sz48) (Nat.zero_add _)) ?_; (try simp only [nA, Nat.reduceBEq, Nat.reduceEqDiff, ↓reduceIte, Nat.reduceAdd, Nat.reduceSub])
      (first | refine awP (op_fa_ptr rfl rfl rfl fl48_4 (by exact sz35) (by decide) rfl) ?_ | refine awP (op_fa_rop rfl rfl fl48_4 (by exact sz35) (by decide) (Nat.le_of_ble_eq_true rfl) rfl) ?_); (try simp only [nA, Nat.reduceBEq, Nat.reduceEqDiff, ↓reduceIte, Nat.reduceAdd, Nat.reduceSub])
      refine AWL.gh (Gh.freeze 69 (Nat.le_of_ble_eq_true rfl) rfl rfl (pav_flat (c.plates.filter (notP p))) (es' := (c.plates.filter (notP p)).map Plate.av) (by rw [List.take_of_length_le (by simp)])) ?_; (try simp only [nA, Nat.reduceBEq, Nat.reduceEqDiff, ↓reduceIte, Nat.reduceAdd, Nat.reduceSub]); refine awJ (op_store rfl rfl rfl rfl (get_of (f := Cart.av) hci) rfl sz35 rfl (Nat.le_of_ble_eq_true rfl) (set_av (c' := delP c p) rfl)) ?_; (try simp only [nA, Nat.reduceBEq, Nat.reduceEqDiff, ↓reduceIte, Nat.reduceAdd, Nat.reduceSub])
      refine AWL.nil ?_
      (refine hK _ ?_; clear hK K; (try simp only [nA, Nat.reduceBEq, Nat.reduceEqDiff, ↓reduceIte, Nat.reduceAdd, Nat.reduceSub]))
      (refine AW.seq_k ?_; intro K hK)
      refine AW.region ?_
      refine awP (op_move rfl rfl) ?_; (try simp only [nA, Nat.reduceBEq, Nat.reduceEqDiff, ↓reduceIte, Nat.reduceAdd, Nat.reduceSub])
      refine awP (op_assign rfl rfl) ?_; (try simp only [nA, Nat.reduceBEq, Nat.reduceEqDiff, ↓reduceIte, Nat.reduceAdd, Nat.reduceSub])
      refine awP (op_assign rfl rfl) ?_; (try simp only [nA, Nat.reduceBEq, Nat.reduceEqDiff, ↓reduceIte, Nat.reduceAdd, Nat.reduceSub])
      refine AWL.nil ?_
      (refine hK _ ?_; clear hK K; (try simp only [nA, Nat.reduceBEq, Nat.reduceEqDiff, ↓reduceIte, Nat.reduceAdd, Nat.reduceSub]))
      refine AW.gh (Gh.freeze 4 (Nat.le_of_ble_eq_true rfl) rfl rfl (cav_flat (xs.set i (delP c p))) (es' := (xs.set i (delP c p)).map Cart.av) (by rw [List.take_of_length_le (by simp)])) ?_; (try simp only [nA, Nat.reduceBEq, Nat.reduceEqDiff, ↓reduceIte, Nat.reduceAdd, Nat.reduceSub])
      refine AW.ret ?_; (try simp only [thenE, inBlk, Nat.reduceEqDiff, ↓reduceIte]); rw [show takeV xs p = ((xs.set i (delP c p)), 0) by unfold takeV; rw [if_neg h0, if_neg h1, hi, get_d hci, if_neg (by simpa using hc3)]]; exact RQ.of0 rfl (.tmp (Nat.le_of_ble_eq_true rfl) rfl rfl (.tmp (Nat.le_of_ble_eq_true rfl) rfl rfl .nil))
end Go.Proofs.Ytbbedhidiffdgaa
