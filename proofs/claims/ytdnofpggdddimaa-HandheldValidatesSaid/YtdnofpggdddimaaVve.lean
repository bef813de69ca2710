import Derived.Test.YtdnofpggdddimaaVvd
namespace Go.Proofs.Ytdnofpggdddimaa
open Go.RowKit
set_option linter.unusedSimpArgs false
set_option linter.unusedVariables false
set_option maxRecDepth 100000
theorem bl_loop (a : ByteArray) : ∀ (n i : Nat) (r : List UInt8), a.size - i = n → ByteArray.toList.loop a i r = r.reverse ++ a.data.toList.drop i
  | 0, i, r, h => by
    have hs : a.data.toList.length = a.size := by rw [Array.length_toList]; rfl
    unfold ByteArray.toList.loop
    rw [if_neg (by omega), List.drop_eq_nil_of_le (by omega), List.append_nil]
  | n + 1, i, r, h => by
    have hs : a.data.toList.length = a.size := by rw [Array.length_toList]; rfl
    have hi : i < a.data.toList.length := by omega
    unfold ByteArray.toList.loop
    rw [if_pos (by omega), bl_loop a n (i + 1) _ (by omega), List.drop_eq_getElem_cons hi]
    have : a.get! i = a.data.toList[i] := by
      show a.data[i]! = _
      rw [getElem!_pos a.data i (by simpa using hi)]
      simp
    rw [this, List.reverse_cons, List.append_assoc]
    rfl
theorem bl_inj {a b : ByteArray} (h : a.toList = b.toList) : a = b := by
  unfold ByteArray.toList at h
  rw [bl_loop a _ 0 [] rfl, bl_loop b _ 0 [] rfl] at h
  exact bytes_ext (by simpa using h)
theorem flEq_iff {f g : Flight} : flEq f g = true ↔ f = g := by
  obtain ⟨a, b, c, d⟩ := f
  obtain ⟨a', b', c', d'⟩ := g
  unfold flEq
  simp only [Bool.and_eq_true, beq_iff_eq, Flight.mk.injEq]
  constructor
  · rintro ⟨h1, h2, h3, h4⟩; exact ⟨bl_inj h1, h2, bl_inj h3, h4⟩
  rintro ⟨h1, h2, h3, h4⟩; exact ⟨by rw [h1], h2, by rw [h3], h4⟩
theorem spot_iff {c d : Container} : spotOf d = spotOf c ↔ d.flight = c.flight ∧ d.position = c.position := by
  unfold spotOf
  obtain ⟨n, ⟨a, b, s, e⟩, _, _, _, p, _, _⟩ := c
  obtain ⟨n', ⟨a', b', s', e'⟩, _, _, _, p', _, _⟩ := d
  simp only [Spot.mk.injEq, Flight.mk.injEq]
  constructor
  · rintro ⟨h1, h2, h3, h4, h5⟩; exact ⟨⟨bytes_ext h1, h2, bytes_ext h3, h4⟩, h5⟩
  rintro ⟨⟨h1, h2, h3, h4⟩, h5⟩; exact ⟨by rw [h1], h2, by rw [h3], h4, h5⟩
theorem run_eq73 (p q : Flight) (w : World) : (binOp .eql 73 (.agg #[.string p.carrier, .int .i64 p.number, .string p.suffix, .int .i64 p.day]) (.agg #[.string q.carrier, .int .i64 q.number, .string q.suffix, .int .i64 q.day])).run Try.prog w = .ok (.bool (flEq p q)) w := by
  obtain ⟨a, b, c, d⟩ := p
  obtain ⟨a', b', c', d'⟩ := q
  unfold binOp
  simp only [Op.equal]
  rw [Sem.run_bind, show Op.maxDepth = 9998 + 1 + 1 from rfl, run_equalIn_struct w _ 73 _ _ fo73 st73]
  unfold Program.fieldsOf; rw [Try.underlying73]
  simp only [Op.eqFields]
  go_simp
  unfold flEq
  by_cases h1 : a.toList = a'.toList <;> by_cases h2 : b = b' <;> by_cases h3 : c.toList = c'.toList <;> by_cases h4 : d = d' <;> simp [h1, h2, h3, h4]
theorem run_tye73 (p q : Operand) (x y : Array Value) (w : World) : (eqGuard .eql 73 p q (.agg x) (.agg y)).run Try.prog w = .ok () w := by
  unfold eqGuard
  simp [ty73, run_program]
section
variable {S0 : Nat → Prop} {own0 : List Nat} {v0 : List Value} {w0 : World} {o : Oper} {ev : Operand → AV} {T : Sl} {yt : TypeId} {y z : Operand}
theorem op_eq73 {p q : Flight} (ho : o.op = .binOp .eql 73 y z yt) (hy : ev y = .agg p.av) (hz : ev z = .agg q.av) : OpP ⟨Try.prog, S0, own0, v0, w0⟩ o ev T (.v (.bool (flEq p q))) :=
  op_bin_agg (xs := [.string p.carrier, .int .i64 p.number, .string p.suffix, .int .i64 p.day]) (ys := [.string q.carrier, .int .i64 q.number, .string q.suffix, .int .i64 q.day]) ho hy hz (fun w => run_tye73 _ _ _ _ w) (fun w => run_eq73 p q w) rfl
end
def Seen (xs : List Container) (i : Nat) (sp : List Container) (pl : List Plate) : Prop :=
  chk (prevN xs i) (xs.drop i) sp pl = chk none xs [] [] ∧ (∀ s, s ∈ sp.map spotOf ↔ ∃ c ∈ xs.take i, c.position ≠ 0 ∧ spotOf c = s) ∧ ∀ p, p ∈ pl ↔ ∃ c ∈ xs.take i, hasB c.pieces p = true
theorem seen_zero (xs : List Container) : Seen xs 0 [] [] := ⟨rfl, fun s => by simp, fun p => by simp⟩
theorem seen_step {xs : List Container} {i : Nat} {sp : List Container} {pl : List Plate} {c : Container} (hS : Seen xs i sp pl) (hci : xs[i]? = some c) :
    chk none xs [] [] = (if valC c ≠ 0 then valC c else if prevBad (prevN xs i) c.number = true then 9 else if c.position ≠ 0 ∧ spotOf c ∈ sp.map spotOf then 7 else
      match chkP c.pieces pl with
      | none => 5
      | some pl' => chk (some c.number) (xs.drop (i + 1)) (if c.position ≠ 0 then c :: sp else sp) pl') := by
  rw [← hS.1, drop_cons hci]
  rfl
theorem chkP_no : ∀ (l : List Piece) (pl : List Plate), (∃ x ∈ l, x.plate ∈ pl) → chkP l pl = none
  | [], _, ⟨x, hx, _⟩ => by cases hx
  | y :: l, pl, ⟨x, hx, h⟩ => by
    rw [chkP_cons]
    by_cases hy : y.plate ∈ pl
    · rw [if_pos hy]
    rw [if_neg hy]
    rcases List.mem_cons.1 hx with rfl | hx
    · exact absurd h hy
    exact chkP_no l _ ⟨x, hx, List.mem_cons_of_mem _ h⟩
theorem chkP_yes : ∀ (l : List Piece) (pl : List Plate), AscP l → (∀ x ∈ l, x.plate ∉ pl) → ∃ pl', chkP l pl = some pl' ∧ ∀ q, q ∈ pl' ↔ q ∈ pl ∨ ∃ x ∈ l, x.plate = q
  | [], pl, _, _ => ⟨pl, rfl, fun q => by simp⟩
  | y :: l, pl, ha, hn => by
    have ha' := List.pairwise_cons.1 ha
    obtain ⟨pl', h1, h2⟩ := chkP_yes l (y.plate :: pl) ha'.2 fun x hx hm => by
      rcases List.mem_cons.1 hm with hm | hm
      · have := ha'.1 x hx
        rw [hm] at this
        exact PLt.irrefl _ this
      exact hn x (List.mem_cons_of_mem _ hx) hm
    refine ⟨pl', by rw [chkP_cons, if_neg (hn y (by simp))]; exact h1, fun q => ?_⟩
    rw [h2 q]
    simp only [List.mem_cons, exists_eq_or_imp]
    constructor
    · rintro ((h | h) | h)
      · exact .inr (.inl h.symm)
      · exact .inl h
      exact .inr (.inr h)
    rintro (h | h | h)
    · exact .inl (.inr h)
    · exact .inl (.inl h.symm)
    exact .inr h
theorem take_mem {xs : List Container} {i : Nat} {c d : Container} (hci : xs[i]? = some c) : d ∈ xs.take (i + 1) ↔ d ∈ xs.take i ∨ d = c := by
  rw [List.take_add_one, hci, List.mem_append]
  simp
theorem seen_next {xs : List Container} {i : Nat} {sp : List Container} {pl pl' : List Plate} {c : Container} (hS : Seen xs i sp pl) (hci : xs[i]? = some c)
    (hR : chk none xs [] [] = chk (some c.number) (xs.drop (i + 1)) (if c.position ≠ 0 then c :: sp else sp) pl') (hp : ∀ q, q ∈ pl' ↔ q ∈ pl ∨ ∃ x ∈ c.pieces, x.plate = q) : ∃ sp pl, Seen xs (i + 1) sp pl := by
  refine ⟨_, pl', by rw [prevN_succ hci]; exact hR.symm, fun s => ?_, fun q => ?_⟩
  · have h2 := hS.2.1 s
    constructor
    · intro h
      by_cases h0 : c.position ≠ 0
      · rw [if_pos h0, List.map_cons, List.mem_cons] at h
        rcases h with h | h
        · exact ⟨c, (take_mem hci).2 (.inr rfl), h0, h.symm⟩
        obtain ⟨d, hd, h3⟩ := h2.1 h
        exact ⟨d, (take_mem hci).2 (.inl hd), h3⟩
      rw [if_neg h0] at h
      obtain ⟨d, hd, h3⟩ := h2.1 h
      exact ⟨d, (take_mem hci).2 (.inl hd), h3⟩
    rintro ⟨d, hd, h3, h4⟩
    rcases (take_mem hci).1 hd with hd | rfl
    · have := h2.2 ⟨d, hd, h3, h4⟩
      split
      · exact List.mem_cons_of_mem _ this
      exact this
    rw [if_pos h3, List.map_cons]; exact List.mem_cons.2 (.inl h4.symm)
  rw [hp q, hS.2.2 q]
  constructor
  · rintro (⟨d, hd, h⟩ | h)
    · exact ⟨d, (take_mem hci).2 (.inl hd), h⟩
    exact ⟨c, (take_mem hci).2 (.inr rfl), hasB_iff.2 h⟩
  rintro ⟨d, hd, h⟩
  rcases (take_mem hci).1 hd with hd | rfl
  · exact .inl ⟨d, hd, h⟩
  exact .inr (hasB_iff.1 h)
theorem findL_snd {xs : List Container} {p : Plate} : (findL xs p).2 = true ↔ ∃ c ∈ xs, hasB c.pieces p = true := by
  unfold findL
  cases h : xs.find? fun c => hasB c.pieces p with
  | none =>
    rw [List.find?_eq_none] at h
    constructor
    · intro h; cases h
    rintro ⟨c, hc, h2⟩; exact absurd h2 (h c hc)
  | some c => exact ⟨fun _ => ⟨c, List.mem_of_find?_eq_some h, List.find?_some (p := fun (d : Container) => hasB d.pieces p) h⟩, fun _ => rfl⟩
theorem mem_takeI {xs : List Container} {i k : Nat} (h : k < xs.length) (hk : k < i) : xs[k] ∈ xs.take i := by
  rw [show xs[k] = (xs.take i)[k]'(by simp; omega) by simp]
  exact List.getElem_mem _
set_option maxHeartbeats 4000000 in
theorem C52 {xs : List Container} (hx : xs.length ≤ 1000000) (hb : ∀ c ∈ xs, c.pieces.length ≤ 1000000000) : Fn Try.prog 52 [] [.ro (xs.map Container.av)] [.v (.int .i64 (chkL xs))] [] := by
  refine Spec.body Try.func52 rfl Try.ntmps52 (by simp) rfl ?_; intro S0 own0 v0 w0
  (refine AW.seq_k ?_; intro K hK)
  refine AW.region ?_
  refine awP (op_assign rfl rfl) ?_
  refine AWL.nil ?_
  (refine hK _ ?_; clear hK K; (simp only [nA, Nat.reduceBEq, Nat.reduceEqDiff, ↓reduceIte, Nat.reduceAdd, Nat.reduceSub]))
  (refine AW.seq_k ?_; intro K hK)
  (refine AW.seq_k ?_; intro K hK)
  refine AW.region ?_
  refine awP (op_move rfl rfl) ?_
  (refine awP (op_len_ro rfl rfl Try.underlying23 (by exact .inr (.inl ⟨_, rfl, rfl⟩))) ?_)
  refine awP (op_gtr rfl rfl rfl) ?_
  refine AWL.nil ?_
  (refine hK _ ?_; clear hK K; (simp only [nA, ↓reduceIte]))
  refine AW.cond rfl rfl rfl (fun hc => ?_) (fun hc => ?_)
  ·
   (try simp only [hcS] at hc); have hc1 := hc
   (refine AW.seq_k ?_; intro K hK)
   refine AW.region ?_
   refine awP (op_assign rfl rfl) ?_
   refine AWL.nil ?_
   (refine hK _ ?_; clear hK K; (simp only [nA, Nat.reduceBEq, Nat.reduceEqDiff, ↓reduceIte, Nat.reduceAdd, Nat.reduceSub]))
   skip
   refine AW.ret ?_; (simp only [thenE, inBlk, Nat.reduceEqDiff, ↓reduceIte]); rw [show chkL xs = 2 by unfold chkL; rw [if_pos (by omega)]]; exact RQ.of0 rfl (.tmp (bl rfl) rfl rfl .nil)
  (try simp only [hcS] at hc); have hc1 := hc; have hL : chkL xs = chk none xs [] [] := (by unfold chkL; rw [if_neg (by omega)])
  refine AW.skip ?_
  (refine hK _ ?_; clear hK K; (skip))
  (refine AW.seq_k ?_; intro K hK)
  (refine AW.seq_k ?_; intro K hK)
  refine AW.region ?_
  refine awP (op_assign rfl rfl) ?_
  refine AWL.nil ?_
  (refine hK _ ?_; clear hK K; (simp only [nA, Nat.reduceBEq, Nat.reduceEqDiff, ↓reduceIte, Nat.reduceAdd, Nat.reduceSub]))
  refine AW.block ?_
  refine AW.loopI (fun (i : Nat) => [(0, .ro (xs.map Container.av)), (3, .v (.int .i64 (i : Nat)))]) (fun _ => ⟨[], 1⟩) (fun i => i ≤ xs.length ∧ ∃ sp pl, Seen xs i sp pl) (fun i => xs.length - i) 0 ⟨Nat.zero_le _, _, _, seen_zero xs⟩ ⟨rfl, rfl, trivial⟩ rfl ?_; rintro i ρ ⟨hi, sp, pl, hS⟩; simp only [updL]
  (refine AW.seq_k ?_; intro K hK)
  (refine AW.seq_k ?_; intro K hK)
  refine AW.region ?_
  refine awP (op_move rfl rfl) ?_
  refine awP (op_move rfl rfl) ?_
  (refine awP (op_len_ro rfl rfl Try.underlying23 (by exact .inr (.inl ⟨_, rfl, rfl⟩))) ?_)
  refine awP (op_lss rfl rfl rfl) ?_
  refine AWL.nil ?_
  (refine hK _ ?_; clear hK K; (simp only [nA, ↓reduceIte]))
  refine AW.cond rfl rfl rfl (fun hc => ?_) (fun hc => ?_)
  ·
   (try simp only [hcS] at hc); have hc2 := hc; have hlt : i < xs.length := (by simpa using hc2); obtain ⟨c, hci⟩ : ∃ c, xs[i]? = some c := ⟨xs[i], List.getElem?_eq_getElem hlt⟩; have hR := seen_step hS hci
   refine AW.skip ?_
   (refine hK _ ?_; clear hK K; (skip))
   (refine AW.seq_k ?_; intro K hK)
   refine AW.block ?_
   (refine AW.seq_k ?_; intro K hK)
   (refine AW.seq_k ?_; intro K hK)
   refine AW.region ?_
   refine awP (op_move rfl rfl) ?_
   refine awP (op_move rfl rfl) ?_
   (refine awP (op_ia_ro i rfl (.inl rfl) rfl Try.underlying23 rfl (get_of hci) (by exact sz77) (bl rfl)) ?_)
   (refine awR (op_load_rop rfl rfl ag77 sz77 (bl rfl) (by decide) rfl) ?_)
   refine awJ (OpQ.j (op_callQ (b := true) rfl en70 (C70 (c := c)) (RL.cons (by exact View.same rfl) (RL.nil)) rfl)) ?_; (simp only [nA, ↓reduceIte])
   refine awP (op_assign rfl rfl) ?_
   refine AWL.nil ?_
   (refine hK _ ?_; clear hK K; (simp only [nA]))
   (refine AW.seq_k ?_; intro K hK)
   refine AW.region ?_
   refine awP (op_move rfl rfl) ?_
   (refine awP (op_neq rfl rfl rfl) ?_)
   refine AWL.nil ?_
   (refine hK _ ?_; clear hK K; (simp only [nA]))
   refine AW.cond rfl rfl rfl (fun hc => ?_) (fun hc => ?_)
   ·
    (try simp only [hcS] at hc); have hc3 := hc
    (refine AW.seq_k ?_; intro K hK)
    refine AW.region ?_
    refine awP (op_move rfl rfl) ?_
    refine awP (op_assign rfl rfl) ?_
    refine AWL.nil ?_
    (refine hK _ ?_; clear hK K; (simp only [nA, ↓reduceIte]))
    skip
    refine AW.ret ?_; (simp only [thenE, inBlk, Nat.reduceEqDiff, ↓reduceIte]); rw [hL, hR, if_pos (by simpa using hc3)]; exact RQ.of0 rfl (.tmp (bl rfl) rfl rfl .nil)
   (try simp only [hcS] at hc); have hc3 := hc; have hv0 : valC c = 0 := (by simpa using hc3); have hv := val_inv hv0; rw [if_neg (by simp [hv0])] at hR
   refine AW.skip ?_
   (refine hK _ ?_; clear hK K; (skip))
   (refine AW.seq_k ?_; intro K hK)
   (refine AW.seq_k ?_; intro K hK)
   refine AW.quiet mix (by kernel_rfl) ?_
   refine aqP (op_move rfl rfl) ?_
   refine aqP (op_gtr rfl rfl rfl) ?_
   refine aqP (op_move rfl rfl) ?_
   refine' aqAnd' [_, _, _, _, _, _, _, _, _, _, _, _] [29,30,31,32,33,34,35,36,37,38,39,40] rfl rfl rfl rfl rfl rfl rfl rfl rfl rfl rfl rfl (fun hb => ?_) ?_; rotate_left
   ·
    (try simp only [hcS] at hb)
    refine aqP (op_move rfl rfl) ?_
    refine aqP (op_move rfl rfl) ?_
    (refine aqP (op_ia_ro i rfl (.inl rfl) rfl Try.underlying23 rfl (get_of hci) (by exact sz77) (bl rfl)) ?_)
    (refine aqP (op_fa_rop rfl rfl fl77_0 (by exact sz3) (by decide) (bl rfl) rfl) ?_)
    (refine aqR (op_load_rop1 rfl rfl ag3) ?_)
    refine aqP (op_move rfl rfl) ?_
    refine aqP (op_move rfl rfl) ?_
    (refine aqP (op_subi rfl rfl rfl (by omega)) ?_)
    (refine aqP (op_ia_ro (i - 1) rfl (.inl rfl) rfl Try.underlying23 (by omega) (get_mapD (by omega)) (by exact sz77) (bl rfl)) ?_)
    (refine aqP (op_fa_rop rfl rfl fl77_0 (by exact sz3) (by decide) (bl rfl) rfl) ?_)
    (refine aqR (op_load_rop1 rfl rfl ag3) ?_)
    refine aqP (op_leq rfl rfl rfl) ?_
    (refine aqSeg rfl rfl rfl ?_; repeat (first | exact fun _ _ => rfl | refine upd_out rfl ?_))
   simp only [nA, ↓reduceIte]
   refine AQ.nil ?_
   (refine hK _ ?_; clear hK K; (skip))
   refine AW.cond rfl rfl rfl (fun hc => ?_) (fun hc => ?_)
   ·
    (try simp only [hcS] at hc); have hc4 := hc
    (refine AW.seq_k ?_; intro K hK)
    refine AW.region ?_
    refine awP (op_assign rfl rfl) ?_
    refine AWL.nil ?_
    (refine hK _ ?_; clear hK K; (simp only [nA, Nat.reduceBEq, Nat.reduceEqDiff, ↓reduceIte, Nat.reduceAdd, Nat.reduceSub]))
    skip
    refine AW.ret ?_; (simp only [thenE, inBlk, Nat.reduceEqDiff, ↓reduceIte]); rw [if_pos (by rw [prevBad_eq]; simpa using hc)] at hR; rw [hL, hR]; exact RQ.of0 rfl (.tmp (bl rfl) rfl rfl .nil)
   (try simp only [hcS] at hc); have hc4 := hc; rw [if_neg (by rw [prevBad_eq]; simp only [Bool.and_eq_true, decide_eq_true_eq]; omega)] at hR
   refine AW.skip ?_
   (refine hK _ ?_; clear hK K; (skip))
   (refine AW.seq_k ?_; intro K hK)
   (refine AW.seq_k ?_; intro K hK)
   refine AW.region ?_
   refine awP (op_assign rfl rfl) ?_
   refine AWL.nil ?_
   (refine hK _ ?_; clear hK K; (simp only [nA, Nat.reduceBEq, Nat.reduceEqDiff, ↓reduceIte, Nat.reduceAdd, Nat.reduceSub]))
   refine AW.block ?_
   refine AW.loopI (fun (j : Nat) => [(0, .ro (xs.map Container.av)), (3, .v (.int .i64 (i : Nat))), (5, .v (.int .i64 (j : Nat)))]) (fun _ => ⟨[], 1⟩) (fun j => j ≤ i ∧ ∀ k (h : k < xs.length), k < j → ¬ (c.position ≠ 0 ∧ spotOf xs[k] = spotOf c)) (fun j => i - j) 0 ⟨by simp, by simp⟩ ⟨rfl, rfl, rfl, trivial⟩ rfl ?_; intro j ρ hJ; simp only [updL]
   (refine AW.seq_k ?_; intro K hK)
   (refine AW.seq_k ?_; intro K hK)
   refine AW.region ?_
   refine awP (op_move rfl rfl) ?_
   refine awP (op_move rfl rfl) ?_
   refine awP (op_lss rfl rfl rfl) ?_
   refine AWL.nil ?_
   (refine hK _ ?_; clear hK K; (simp only [nA, ↓reduceIte]))
   refine AW.cond rfl rfl rfl (fun hc => ?_) (fun hc => ?_)
   ·
    (try simp only [hcS] at hc); have hc5 := hc; have hji : j < i := (by omega); have hjl : j < xs.length := (by omega); obtain ⟨d, hdj⟩ : ∃ d, xs[j]? = some d := ⟨xs[j], List.getElem?_eq_getElem hjl⟩; have hde := (List.getElem?_eq_some_iff.1 hdj).2
    refine AW.skip ?_
    (refine hK _ ?_; clear hK K; (skip))
    (refine AW.seq_k ?_; intro K hK)
    refine AW.block ?_
    (refine AW.seq_k ?_; intro K hK)
    refine AW.quiet mix (by kernel_rfl) ?_
    refine aqP (op_move rfl rfl) ?_
    refine aqP (op_move rfl rfl) ?_
    (refine aqP (op_ia_ro i rfl (.inl rfl) rfl Try.underlying23 rfl (get_of hci) (by exact sz77) (bl rfl)) ?_)
    (refine aqP (op_fa_rop rfl rfl fl77_5 (by exact sz3) (by decide) (bl rfl) rfl) ?_)
    (refine aqR (op_load_rop1 rfl rfl ag3) ?_)
    (refine aqP (op_neq rfl rfl rfl) ?_)
    refine aqP (op_move rfl rfl) ?_
    refine' aqAnd' [_, _, _, _, _, _, _, _, _, _, _] [54,55,56,57,58,59,60,61,62,63,64] rfl rfl rfl rfl rfl rfl rfl rfl rfl rfl rfl rfl (fun hb => ?_) ?_; rotate_left
    ·
     (try simp only [hcS] at hb)
     refine aqP (op_move rfl rfl) ?_
     refine aqP (op_move rfl rfl) ?_
     (refine aqP (op_ia_ro j rfl (.inl rfl) rfl Try.underlying23 rfl (get_of hdj) (by exact sz77) (bl rfl)) ?_)
     (refine aqP (op_fa_rop rfl rfl fl77_5 (by exact sz3) (by decide) (bl rfl) rfl) ?_)
     (refine aqR (op_load_rop1 rfl rfl ag3) ?_)
     refine aqP (op_move rfl rfl) ?_
     refine aqP (op_move rfl rfl) ?_
     (refine aqP (op_ia_ro i rfl (.inl rfl) rfl Try.underlying23 rfl (get_of hci) (by exact sz77) (bl rfl)) ?_)
     (refine aqP (op_fa_rop rfl rfl fl77_5 (by exact sz3) (by decide) (bl rfl) rfl) ?_)
     (refine aqR (op_load_rop1 rfl rfl ag3) ?_)
     (refine aqP (op_eql rfl rfl rfl) ?_)
     (refine aqSeg rfl rfl rfl ?_; repeat (first | exact fun _ _ => rfl | refine upd_out rfl ?_))
    simp only [nA, ↓reduceIte]
    refine aqP (op_move rfl rfl) ?_
    refine' aqAnd' [_, _, _, _, _, _, _, _, _, _, _] [67,68,69,70,71,72,73,74,75,76,77] rfl rfl rfl rfl rfl rfl rfl rfl rfl rfl rfl rfl (fun hb => ?_) ?_; rotate_left
    ·
     (try simp only [hcS] at hb)
     refine aqP (op_move rfl rfl) ?_
     refine aqP (op_move rfl rfl) ?_
     (refine aqP (op_ia_ro j rfl (.inl rfl) rfl Try.underlying23 rfl (get_of hdj) (by exact sz77) (bl rfl)) ?_)
     (refine aqP (op_fa_rop rfl rfl fl77_1 (by exact sz73) (by decide) (bl rfl) rfl) ?_)
     (refine aqR (op_load_rop rfl rfl ag73 sz73 (bl rfl) (by decide) rfl) ?_)
     refine aqP (op_move rfl rfl) ?_
     refine aqP (op_move rfl rfl) ?_
     (refine aqP (op_ia_ro i rfl (.inl rfl) rfl Try.underlying23 rfl (get_of hci) (by exact sz77) (bl rfl)) ?_)
     (refine aqP (op_fa_rop rfl rfl fl77_1 (by exact sz73) (by decide) (bl rfl) rfl) ?_)
     (refine aqR (op_load_rop rfl rfl ag73 sz73 (bl rfl) (by decide) rfl) ?_)
     refine aqP (op_eq73 rfl rfl rfl) ?_; (simp only [nA, Nat.reduceEqDiff, ↓reduceIte])
     (refine aqSeg rfl rfl rfl ?_; repeat (first | exact fun _ _ => rfl | refine upd_out rfl ?_))
    simp only [nA]
    refine AQ.nil ?_
    (refine hK _ ?_; clear hK K; (skip))
    refine AW.cond rfl rfl rfl (fun hc => ?_) (fun hc => ?_)
    ·
     (try simp only [hcS] at hc); have hc6 := hc
     (refine AW.seq_k ?_; intro K hK)
     refine AW.region ?_
     refine awP (op_assign rfl rfl) ?_
     refine AWL.nil ?_
     (refine hK _ ?_; clear hK K; (simp only [nA, Nat.reduceBEq, Nat.reduceEqDiff, ↓reduceIte, Nat.reduceAdd, Nat.reduceSub]))
     skip
     refine AW.ret ?_; (simp only [thenE, inBlk, Nat.reduceEqDiff, ↓reduceIte]); rw [if_pos ⟨hc6.1.1, (hS.2.1 _).2 ⟨d, by rw [← hde]; exact mem_takeI hjl hji, by rw [hc6.1.2]; exact hc6.1.1, spot_iff.2 ⟨flEq_iff.1 hc6.2, hc6.1.2⟩⟩⟩] at hR; rw [hL, hR]; exact RQ.of0 rfl (.tmp (bl rfl) rfl rfl .nil)
    (try simp only [hcS] at hc); have hc6 := hc
    refine AW.skip ?_
    simp only [thenE, inBlk, Nat.reduceEqDiff, ↓reduceIte]
    (refine hK _ ?_; clear hK K; (skip))
    refine AW.region ?_
    refine awP (op_move rfl rfl) ?_
    (refine awP (op_addi rfl rfl rfl (by omega)) ?_)
    refine awP (op_assign rfl rfl) ?_
    skip
    refine AWL.nil ?_
    refine ⟨j + 1, ⟨by omega, fun k h hk => by rcases Nat.lt_or_ge k j with h' | h'; exact hJ.2 k h h'; (obtain rfl : k = j := by omega); rintro ⟨h0, h1⟩; rw [hde, spot_iff] at h1; exact absurd (flEq_iff.2 h1.1) (by simpa [h0, h1.2] using hc6)⟩, by omega, ⟨rfl, rfl, rfl, trivial⟩, (by rfl), (by rfl)⟩
   (try simp only [hcS] at hc); have hc5 := hc; obtain rfl : i = j := (by omega); rw [if_neg (show ¬ (c.position ≠ 0 ∧ spotOf c ∈ sp.map spotOf) from fun ⟨h0, h1⟩ => by obtain ⟨d, hd, h3, h4⟩ := (hS.2.1 _).1 h1; obtain ⟨k, hk, rfl⟩ := List.getElem_of_mem hd; rw [List.getElem_take] at h4; exact hJ.2 k (by simp at hk; omega) (by simp at hk; omega) ⟨h0, h4⟩)] at hR
   refine AW.exit ?_; (simp only [thenE, inBlk, Nat.reduceEqDiff, ↓reduceIte])
   clear hK K
   (refine hK _ ?_; clear hK K; (skip))
   (refine AW.seq_k ?_; intro K hK)
   refine AW.region ?_
   refine awP (op_assign rfl rfl) ?_
   refine AWL.nil ?_
   (refine hK _ ?_; clear hK K; (simp only [nA, Nat.reduceBEq, Nat.reduceEqDiff, ↓reduceIte, Nat.reduceAdd, Nat.reduceSub]))
   refine AW.block ?_
   refine AW.loopI (fun (j : Nat) => [(0, .ro (xs.map Container.av)), (3, .v (.int .i64 (i : Nat))), (6, .v (.int .i64 (j : Nat)))]) (fun _ => ⟨[], 1⟩) (fun j => j ≤ c.pieces.length ∧ ∀ k (h : k < c.pieces.length), k < j → c.pieces[k].plate ∉ pl) (fun j => c.pieces.length - j) 0 ⟨by simp, by simp⟩ ⟨rfl, rfl, rfl, trivial⟩ rfl ?_; intro j ρ hJ; simp only [updL]
   (refine AW.seq_k ?_; intro K hK)
   (refine AW.seq_k ?_; intro K hK)
   refine AW.region ?_
   refine awP (op_move rfl rfl) ?_
   refine awP (op_move rfl rfl) ?_
   refine awP (op_move rfl rfl) ?_
   (refine awP (op_ia_ro i rfl (.inl rfl) rfl Try.underlying23 rfl (get_of hci) (by exact sz77) (bl rfl)) ?_)
   (refine awP (op_fa_rop rfl rfl fl77_7 (by exact sz53) (by decide) (bl rfl) rfl) ?_)
   (refine awR (op_load_rop1 rfl rfl ag53) ?_)
   (refine awP (op_len_ro rfl rfl Try.underlying53 (by exact .inr (.inl ⟨_, rfl, rfl⟩))) ?_)
   refine awP (op_lss rfl rfl rfl) ?_
   refine AWL.nil ?_
   (refine hK _ ?_; clear hK K; (simp only [nA, ↓reduceIte]))
   refine AW.cond rfl rfl rfl (fun hc => ?_) (fun hc => ?_)
   ·
    (try simp only [hcS] at hc); have hc7 := hc; have hjl : j < c.pieces.length := (by simpa using hc7); obtain ⟨p, hpj⟩ : ∃ p, c.pieces[j]? = some p := ⟨c.pieces[j], List.getElem?_eq_getElem hjl⟩; have hpe := (List.getElem?_eq_some_iff.1 hpj).2
    refine AW.skip ?_
    (refine hK _ ?_; clear hK K; (skip))
    (refine AW.seq_k ?_; intro K hK)
    refine AW.block ?_
    (refine AW.seq_k ?_; intro K hK)
    refine AW.ad [] mix rfl ?_
    refine adP 0 rfl (fun T' ok => op_move rfl rfl) (by exact trivial) (by kernel_rfl) (by kernel_rfl) ?_
    refine adP 1 rfl (fun T' ok => op_move rfl rfl) (by exact trivial) (by kernel_rfl) (by kernel_rfl) ?_
    refine adP 2 rfl (fun T' ok => op_slice_ro 0 i rfl (.inl rfl) (by exact rfl) (by exact ⟨_, rfl⟩) (Nat.zero_le _) (by simp; omega) Try.underlying23 sz77 (cav_len xs) (es' := (xs.take i).map Container.av) (by simp [List.map_take])) (by exact trivial) (by kernel_rfl) (by kernel_rfl) ?_; (simp only [nA, Nat.reduceBEq, Nat.reduceEqDiff, ↓reduceIte])
    refine adP 3 rfl (fun T' ok => op_move rfl rfl) (by exact trivial) (by kernel_rfl) (by kernel_rfl) ?_
    refine adP 4 rfl (fun T' ok => op_move rfl rfl) (by exact trivial) (by kernel_rfl) (by kernel_rfl) ?_
    (refine adP 5 rfl (fun T' ok => op_ia_ro i rfl (.inl rfl) rfl Try.underlying23 rfl (get_of hci) (by exact sz77) (bl rfl)) (by exact trivial) (by kernel_rfl) (by kernel_rfl) ?_)
    (refine adP 6 rfl (fun T' ok => op_fa_rop rfl rfl fl77_7 (by exact sz53) (by decide) (bl rfl) rfl) (by exact trivial) (by kernel_rfl) (by kernel_rfl) ?_)
    (refine adR 7 rfl (fun T' ok => op_load_rop1 rfl rfl ag53) (by exact trivial) (by kernel_rfl) (by kernel_rfl) ?_)
    refine adP 8 rfl (fun T' ok => op_move rfl rfl) (by exact trivial) (by kernel_rfl) (by kernel_rfl) ?_
    (refine adP 9 rfl (fun T' ok => op_ia_ro j rfl (.inl rfl) rfl Try.underlying53 rfl (get_of hpj) (by exact sz31) (bl rfl)) (by exact trivial) (by kernel_rfl) (by kernel_rfl) ?_)
    (refine adP 10 rfl (fun T' ok => op_fa_rop rfl rfl fl31_0 (by exact sz29) (by decide) (bl rfl) rfl) (by exact trivial) (by kernel_rfl) (by kernel_rfl) ?_)
    (refine adR 11 rfl (fun T' ok => op_load_rop rfl rfl ag29 sz29 (bl rfl) (by decide) rfl) (by exact trivial) (by kernel_rfl) (by kernel_rfl) ?_)
    refine adF 12 rfl (fun T' ok => op_callS rfl en71 (C71 (xs := xs.take i) (p := p.plate) (by simp; omega) (fun d hd => hb d (List.mem_of_mem_take hd))) (RL.cons (by exact View.same rfl) (RL.cons (by exact View.same rfl) (RL.nil))) rfl rfl rfl) (by exact trivial) (by kernel_rfl) (by kernel_rfl) ?_; (simp only [nA, ↓reduceIte])
    refine adP 13 rfl (fun T' ok => op_move rfl rfl) (by exact trivial) (by kernel_rfl) (by kernel_rfl) ?_
    refine adP 14 rfl (fun T' ok => op_extract rfl rfl rfl) (by exact trivial) (by kernel_rfl) (by kernel_rfl) ?_
    refine adP 15 rfl (fun T' ok => op_extract rfl rfl rfl) (by exact trivial) (by kernel_rfl) (by kernel_rfl) ?_
    refine adP 16 rfl (fun T' ok => op_assign rfl rfl) (by exact trivial) (by kernel_rfl) (by kernel_rfl) ?_
    refine adP 17 rfl (fun T' ok => op_assign rfl rfl) (by exact trivial) (by kernel_rfl) (by kernel_rfl) ?_
    refine adDone (by kernel_rfl) ?_
    (refine hK _ ?_; clear hK K; (simp only [nA, ↓reduceIte]))
    (refine AW.seq_k ?_; intro K hK)
    refine AW.region ?_
    refine awP (op_move rfl rfl) ?_
    refine AWL.nil ?_
    (refine hK _ ?_; clear hK K; (simp only [nA]))
    refine AW.cond rfl rfl rfl (fun hc => ?_) (fun hc => ?_)
    ·
     (try simp only [hcS] at hc); have hc8 := hc
     (refine AW.seq_k ?_; intro K hK)
     refine AW.region ?_
     refine awP (op_assign rfl rfl) ?_
     refine AWL.nil ?_
     (refine hK _ ?_; clear hK K; (simp only [nA, Nat.reduceBEq, Nat.reduceEqDiff, ↓reduceIte, Nat.reduceAdd, Nat.reduceSub]))
     skip
     refine AW.ret ?_; (simp only [thenE, inBlk, Nat.reduceEqDiff, ↓reduceIte]); rw [chkP_no c.pieces pl ⟨p, List.mem_of_getElem? hpj, (hS.2.2 _).2 (findL_snd.1 hc8)⟩] at hR; rw [hL, hR]; exact RQ.of0 rfl (.tmp (bl rfl) rfl rfl .nil)
    (try simp only [hcS] at hc); have hc8 := hc
    refine AW.skip ?_
    simp only [thenE, inBlk, Nat.reduceEqDiff, ↓reduceIte]
    (refine hK _ ?_; clear hK K; (skip))
    refine AW.region ?_
    refine awP (op_move rfl rfl) ?_
    (refine awP (op_addi rfl rfl rfl (by omega)) ?_)
    refine awP (op_assign rfl rfl) ?_
    skip
    refine AWL.nil ?_
    refine ⟨j + 1, ⟨by omega, fun k h hk => by rcases Nat.lt_or_ge k j with h' | h'; exact hJ.2 k h h'; (obtain rfl : k = j := by omega); rw [hpe]; intro hm; exact absurd (findL_snd.2 ((hS.2.2 _).1 hm)) (by simpa using hc8)⟩, by omega, ⟨rfl, rfl, rfl, trivial⟩, (by rfl), (by rfl)⟩
   (try simp only [hcS] at hc); have hc7 := hc; obtain rfl : j = c.pieces.length := (by simp at hc7; omega); obtain ⟨pl', hp1, hp2⟩ := chkP_yes c.pieces pl (ascP_iff.2 hv.2.2.2) (fun x hx => by obtain ⟨k, hk, rfl⟩ := List.getElem_of_mem hx; exact hJ.2 k hk hk); rw [hp1] at hR; simp only at hR
   refine AW.exit ?_; (simp only [thenE, inBlk, Nat.reduceEqDiff, ↓reduceIte])
   clear hK K
   (refine hK _ ?_; clear hK K; (skip))
   refine AW.region ?_
   refine awP (op_move rfl rfl) ?_
   (refine awP (op_addi rfl rfl rfl (by omega)) ?_)
   refine awP (op_assign rfl rfl) ?_
   skip
   refine AWL.nil ?_
   refine ⟨i + 1, ⟨by omega, seen_next hS hci hR hp2⟩, by omega, ⟨rfl, rfl, trivial⟩, (by rfl), (by rfl)⟩
  (try simp only [hcS] at hc); have hc2 := hc; obtain rfl : i = xs.length := (by simp at hc2; omega); have hR : (0 : Int) = chk none xs [] [] := (by rw [← hS.1, List.drop_length]; unfold chk; rfl)
  refine AW.exit ?_; (simp only [thenE, inBlk, Nat.reduceEqDiff, ↓reduceIte])
  clear hK K
  (refine hK _ ?_; clear hK K; (skip))
  (refine AW.seq_k ?_; intro K hK)
  refine AW.region ?_
  refine awP (op_assign rfl rfl) ?_
  refine AWL.nil ?_
  (refine hK _ ?_; clear hK K; (simp only [nA, Nat.reduceBEq, Nat.reduceEqDiff, ↓reduceIte, Nat.reduceAdd, Nat.reduceSub]))
  skip
  refine AW.ret ?_; rw [hL, ← hR]; exact RQ.of0 rfl (.tmp (bl rfl) rfl rfl .nil)
end Go.Proofs.Ytdnofpggdddimaa
namespace Go.Proofs.Ytdnofpggdddimaa
open Go.RowKit
set_option linter.unusedSimpArgs false
set_option linter.unusedVariables false
set_option maxRecDepth 100000
instance : Inhabited Flight := ⟨⟨⟨#[]⟩, 0, ⟨#[]⟩, 0⟩⟩
instance : Inhabited Grant := ⟨⟨default, default⟩⟩
instance : Inhabited Op := ⟨⟨0, 0, 0, 0, 0, default⟩⟩
def grBad (l : List Grant) (i : Nat) : Bool := !grB (l.getD i default) || (decide ((i : Int) > 0) && decide (cmpP (l.getD (i - 1) default).piece.plate (l.getD i default).piece.plate ≥ 0))
def grsB (l : List Grant) : Bool := decide ((l.length : Int) ≤ 60) && (List.range l.length).all fun i => !grBad l i
theorem grs_no {l : List Grant} {i : Nat} (h : i < l.length) (hb : grBad l i = true) : grsB l = false := by
  unfold grsB
  rw [all_range_no h (by rw [hb]; rfl), Bool.and_false]
theorem grs_yes {l : List Grant} {i : Nat} (h : ¬ i < l.length) (hb : ∀ k, k < i → grBad l k = false) : grsB l = decide ((l.length : Int) ≤ 60) := by
  unfold grsB
  rw [all_range_yes h (fun k hk => by rw [hb k hk]; rfl), Bool.and_true]
theorem all_f_step {f : Nat → Bool} {i : Nat} (h : ∀ k, k < i → f k = false) (h2 : f i = false) : ∀ k, k < i + 1 → f k = false := fun k hk => by
  by_cases e : k = i
  · rw [e, h2]
  exact h k (by omega)
theorem C48 {h : Hand} (hs : h.Sm) : Fn Try.prog 48 [] [.agg h.av] [.v (.bool (grsB h.grants))] [] := by
  have h1 := hs.g
  refine Spec.body Try.func48 rfl Try.ntmps48 (by simp) rfl ?_; intro S0 own0 v0 w0
  (refine AW.seq_k ?_; intro K hK)
  refine AW.region ?_
  refine awJ (op_box rfl rfl rfl sz87 rfl) ?_; (simp only [nA, Nat.reduceBEq, Nat.reduceEqDiff, ↓reduceIte])
  refine awP (op_assign rfl rfl) ?_
  refine AWL.nil ?_
  (refine hK _ ?_; clear hK K; (simp only [nA, Nat.reduceBEq, Nat.reduceEqDiff, ↓reduceIte, Nat.reduceAdd, Nat.reduceSub]))
  (refine AW.seq_k ?_; intro K hK)
  (refine AW.seq_k ?_; intro K hK)
  refine AW.region ?_
  (refine awP (op_fa_ptr rfl rfl rfl fl87_4 (by exact sz22) (by decide) rfl) ?_)
  (refine awR (op_load_ptr1 rfl rfl rfl rfl ag22 rfl rfl) ?_)
  refine awP (op_len_ro (n := h.grants.length) rfl rfl Try.underlying22 (.inr (.inl ⟨_, rfl, by simp⟩))) ?_
  refine awP (op_gtr rfl rfl rfl) ?_
  refine AWL.nil ?_
  (refine hK _ ?_; clear hK K; (simp only [nA, Nat.reduceBEq, Nat.reduceEqDiff, ↓reduceIte, Nat.reduceAdd, Nat.reduceSub]))
  refine AW.cond rfl rfl rfl (fun hc => ?_) (fun hc => ?_)
  ·
   (try simp only [hcS] at hc); have hc1 := hc
   (refine AW.seq_k ?_; intro K hK)
   refine AW.region ?_
   refine awP (op_assign rfl rfl) ?_
   refine AWL.nil ?_
   (refine hK _ ?_; clear hK K; (simp only [nA, Nat.reduceBEq, Nat.reduceEqDiff, ↓reduceIte, Nat.reduceAdd, Nat.reduceSub]))
   skip
   refine AW.ret ?_; (simp only [thenE, inBlk, Nat.reduceEqDiff, ↓reduceIte]); rw [show grsB h.grants = false by unfold grsB; rw [decide_eq_false (by omega)]; rfl]; exact RQ.of0 rfl (.tmp (bl rfl) rfl rfl .nil)
  (try simp only [hcS] at hc); have hc1 := hc
  refine AW.skip ?_
  (refine hK _ ?_; clear hK K; (skip))
  (refine AW.seq_k ?_; intro K hK)
  (refine AW.seq_k ?_; intro K hK)
  refine AW.region ?_
  (refine awP (op_fa_ptr rfl rfl rfl fl87_4 (by exact sz22) (by decide) rfl) ?_)
  (refine awR (op_load_ptr1 rfl rfl rfl rfl ag22 rfl rfl) ?_)
  refine awP (op_len_ro (n := h.grants.length) rfl rfl Try.underlying22 (.inr (.inl ⟨_, rfl, by simp⟩))) ?_
  refine awP (op_move rfl rfl) ?_
  refine AWL.nil ?_
  (refine hK _ ?_; clear hK K; (simp only [nA, Nat.reduceBEq, Nat.reduceEqDiff, ↓reduceIte, Nat.reduceAdd, Nat.reduceSub]))
  refine AW.block ?_
  refine AW.loopI (fun i => [(1, .ptr 0 1 0 0), (10, .ro (h.grants.map Grant.av)), (11, .v (.int .i64 h.grants.length)), (12, .v (.int .i64 (i : Nat)))]) (fun i => ⟨[(1, .own 87 [h.av])], 2 + i⟩) (fun i => i ≤ h.grants.length ∧ ∀ k, k < i → grBad h.grants k = false) (fun i => h.grants.length - i) 0 (by simp) ⟨rfl, rfl, rfl, rfl, trivial⟩ rfl ?_; intro i ρ hi; simp only [updL]
  (refine AW.seq_k ?_; intro K hK)
  refine AW.region ?_
  refine awP (op_lss rfl rfl rfl) ?_
  refine AWL.nil ?_
  (refine hK _ ?_; clear hK K; (simp only [nA, Nat.reduceBEq, Nat.reduceEqDiff, ↓reduceIte, Nat.reduceAdd, Nat.reduceSub]))
  (refine AW.seq_k ?_; intro K hK)
  refine AW.cond rfl rfl rfl (fun hc => ?_) (fun hc => ?_)
  ·
   (try simp only [hcS] at hc); have hc2 := hc; have hlt : i < h.grants.length := (by simpa using hc2)
   refine AW.skip ?_
   (refine hK _ ?_; clear hK K; (skip))
   (refine AW.seq_k ?_; intro K hK)
   refine AW.block ?_
   (refine AW.seq_k ?_; intro K hK)
   refine AW.region ?_
   refine awP (op_move rfl rfl) ?_
   refine awP (op_ia_ro i rfl (.inl rfl) rfl Try.underlying22 rfl (get_mapD (by omega)) (by exact sz75) (bl rfl)) ?_
   (refine awR (op_load_rop rfl rfl ag75 sz75 (bl rfl) (by decide) rfl) ?_)
   refine awJ (op_alloc rfl ze75 rfl) ?_; (simp only [nA, ↓reduceIte])
   refine awP (op_assign rfl rfl) ?_
   refine awJ (op_store rfl rfl rfl rfl rfl rfl sz75 rfl (bl rfl) rfl) ?_; (simp only [nA, Nat.reduceBEq, Nat.reduceEqDiff, ↓reduceIte])
   refine AWL.nil ?_
   (refine hK _ ?_; clear hK K; (skip))
   (refine AW.seq_k ?_; intro K hK)
   refine AW.quiet mix (by kernel_rfl) ?_
   (refine aqR (op_load_ptr rfl rfl rfl rfl ag75 sz75 (bl rfl) rfl) ?_)
   refine aqQ (op_callQ (b := true) rfl en62 (C62 (g := h.grants.getD i default)) (RL.cons (by exact View.same rfl) (RL.nil)) rfl) ?_; (simp only [nA, Nat.reduceBEq, Nat.reduceEqDiff, ↓reduceIte, Nat.reduceAdd, Nat.reduceSub])
   refine aqP (op_not rfl rfl rfl) ?_
   refine aqP (op_move rfl rfl) ?_
   refine' aqOrN' [_, _, _, _, _, _, _, _, _, _, _, _, _, _, _, _, _] [21,22,23,24,25,26,27,28,29,30,31,32,33,34,35,36,37] rfl rfl rfl rfl rfl rfl rfl rfl rfl rfl rfl rfl (fun hb => ?_) ?_; rotate_left
   ·
    (try simp only [hcS] at hb)
    refine aqP (op_move rfl rfl) ?_
    refine aqP (op_gtr rfl rfl rfl) ?_
    refine aqP (op_move rfl rfl) ?_
    refine' aqAnd' [_, _, _, _, _, _, _, _, _, _, _, _, _] [24,25,26,27,28,29,30,31,32,33,34,35,36] rfl rfl rfl rfl rfl rfl rfl rfl rfl rfl rfl rfl (fun hb => ?_) ?_; rotate_left
    ·
     (try simp only [hcS] at hb)
     (refine aqP (op_fa_ptr rfl rfl rfl fl87_4 (by exact sz22) (by decide) rfl) ?_)
     (refine aqR (op_load_ptr1 rfl rfl rfl rfl ag22 rfl rfl) ?_)
     refine aqP (op_move rfl rfl) ?_
     (refine aqP (op_subi rfl rfl rfl (by omega)) ?_)
     refine aqP (op_ia_ro (i - 1) rfl (.inl rfl) rfl Try.underlying22 (by simp at hb; omega) (get_mapD (by omega)) (by exact sz75) (bl rfl)) ?_
     (refine aqP (op_fa_rop rfl rfl fl75_0 (by exact sz31) (by decide) (bl rfl) rfl) ?_)
     (refine aqP (op_fa_rop rfl rfl fl31_0 (by exact sz29) (by decide) (bl rfl) rfl) ?_)
     (refine aqR (op_load_rop rfl rfl ag29 sz29 (bl rfl) (by decide) rfl) ?_)
     (refine aqP (op_fa_ptr rfl rfl rfl fl75_0 (by exact sz31) (by decide) rfl) ?_)
     (refine aqP (op_fa_ptr rfl rfl rfl fl31_0 (by exact sz29) (by decide) rfl) ?_)
     (refine aqR (op_load_ptr rfl rfl rfl rfl ag29 sz29 (bl rfl) rfl) ?_)
     refine aqQ (op_callQ (b := true) rfl en63 (C63 (p := (h.grants.getD (i - 1) default).piece.plate) (q := (h.grants.getD i default).piece.plate)) (RL.cons (by exact View.same rfl) (RL.cons (by exact View.same rfl) (RL.nil))) rfl) ?_; (simp only [nA, ↓reduceIte])
     refine aqP (op_geq rfl rfl rfl) ?_
     (refine aqSeg rfl rfl rfl ?_; repeat (first | exact fun _ _ => rfl | refine upd_out rfl ?_))
    simp only [nA, ↓reduceIte]
    (refine aqSeg rfl rfl rfl ?_; repeat (first | exact fun _ _ => rfl | refine upd_out rfl ?_ | refine era_out rfl ?_))
   simp only [nA]
   refine AQ.nil ?_
   (refine hK _ ?_; clear hK K; (skip))
   refine AW.cond rfl rfl rfl (fun hc => ?_) (fun hc => ?_)
   ·
    (try simp only [hcS] at hc); have hc3 := hc
    (refine AW.seq_k ?_; intro K hK)
    refine AW.region ?_
    refine awP (op_assign rfl rfl) ?_
    refine AWL.nil ?_
    (refine hK _ ?_; clear hK K; (simp only [nA, Nat.reduceBEq, Nat.reduceEqDiff, ↓reduceIte, Nat.reduceAdd, Nat.reduceSub]))
    skip
    refine AW.ret ?_; (simp only [thenE, inBlk, Nat.reduceEqDiff, ↓reduceIte]); rw [grs_no hlt (by simpa [grBad] using hc3)]; exact RQ.of0 rfl (.tmp (bl rfl) rfl rfl .nil)
   (try simp only [hcS] at hc); have hc3 := hc
   refine AW.skip ?_
   simp only [thenE, inBlk, Nat.reduceEqDiff, ↓reduceIte]
   (refine hK _ ?_; clear hK K; (skip))
   refine AW.region ?_
   (refine awP (op_addi rfl rfl rfl (by omega)) ?_)
   refine awP (op_move rfl rfl) ?_
   refine AWL.gh (Gh.drop 1) ?_; (simp only [nA])
   refine AWL.nil ?_
   refine ⟨i + 1, ⟨by omega, all_f_step hi.2 (by simp at hc3; simp [grBad]; exact ⟨hc3.1, fun c => hc3.2.resolve_left (by omega)⟩)⟩, by omega, ⟨rfl, rfl, rfl, rfl, trivial⟩, (by rfl), (by rfl)⟩
  (try simp only [hcS] at hc); have hc2 := hc
  refine AW.exit ?_; (simp only [thenE, inBlk, Nat.reduceEqDiff, ↓reduceIte])
  clear hK K
  (refine hK _ ?_; clear hK K; (skip))
  (refine AW.seq_k ?_; intro K hK)
  refine AW.region ?_
  refine awP (op_assign rfl rfl) ?_
  refine AWL.nil ?_
  (refine hK _ ?_; clear hK K; (simp only [nA, Nat.reduceBEq, Nat.reduceEqDiff, ↓reduceIte, Nat.reduceAdd, Nat.reduceSub]))
  skip
  refine AW.ret ?_; rw [show grsB h.grants = true by rw [grs_yes (i := i) (by simp at hc2; omega) hi.2, decide_eq_true (by omega)]]; exact RQ.of0 rfl (.tmp (bl rfl) rfl rfl .nil)
theorem C51 {l : List Grant} (h1 : l.length ≤ 1000) : Fn Try.prog 51 [] [.ro (l.map Grant.av)] [.v (.bool (grsB l))] [] := by
  refine Spec.body Try.func51 rfl Try.ntmps51 (by simp) rfl ?_; intro S0 own0 v0 w0
  (refine AW.seq_k ?_; intro K hK)
  refine AW.region ?_
  refine awP (op_assign rfl rfl) ?_
  refine AWL.nil ?_
  (refine hK _ ?_; clear hK K; (simp only [nA, Nat.reduceBEq, Nat.reduceEqDiff, ↓reduceIte, Nat.reduceAdd, Nat.reduceSub]))
  (refine AW.seq_k ?_; intro K hK)
  (refine AW.seq_k ?_; intro K hK)
  refine AW.region ?_
  refine awP (op_assign rfl rfl) ?_
  refine AWL.nil ?_
  (refine hK _ ?_; clear hK K; (simp only [nA, Nat.reduceBEq, Nat.reduceEqDiff, ↓reduceIte, Nat.reduceAdd, Nat.reduceSub]))
  refine AW.block ?_
  refine AW.loopI (fun i => [(0, .ro (l.map Grant.av)), (3, .v (.int .i64 (i : Nat)))]) (fun i => ⟨[], 1⟩) (fun i => i ≤ l.length ∧ ∀ k, k < i → grBad l k = false) (fun i => l.length - i) 0 (by simp) ⟨rfl, rfl, trivial⟩ rfl ?_; intro i ρ hi; simp only [updL]
  (refine AW.seq_k ?_; intro K hK)
  (refine AW.seq_k ?_; intro K hK)
  refine AW.region ?_
  refine awP (op_move rfl rfl) ?_
  refine awP (op_move rfl rfl) ?_
  refine awP (op_len_ro (n := l.length) rfl rfl Try.underlying22 (.inr (.inl ⟨_, rfl, by simp⟩))) ?_
  refine awP (op_lss rfl rfl rfl) ?_
  refine AWL.nil ?_
  (refine hK _ ?_; clear hK K; (simp only [nA, ↓reduceIte]))
  refine AW.cond rfl rfl rfl (fun hc => ?_) (fun hc => ?_)
  ·
   (try simp only [hcS] at hc); have hc1 := hc; have hlt : i < l.length := (by simpa using hc1)
   refine AW.skip ?_
   (refine hK _ ?_; clear hK K; (skip))
   (refine AW.seq_k ?_; intro K hK)
   refine AW.block ?_
   (refine AW.seq_k ?_; intro K hK)
   refine AW.quiet mix (by kernel_rfl) ?_
   refine aqP (op_move rfl rfl) ?_
   refine aqP (op_move rfl rfl) ?_
   refine aqP (op_ia_ro i rfl (.inl rfl) rfl Try.underlying22 rfl (get_mapD (by omega)) (by exact sz75) (bl rfl)) ?_
   (refine aqR (op_load_rop rfl rfl ag75 sz75 (bl rfl) (by decide) rfl) ?_)
   refine aqQ (op_callQ (b := true) rfl en67 (C67 (g := l.getD i default)) (RL.cons (by exact View.same rfl) (RL.nil)) rfl) ?_; (simp only [nA, ↓reduceIte])
   refine aqP (op_not rfl rfl rfl) ?_
   refine aqP (op_move rfl rfl) ?_
   refine' aqOrN' [_, _, _, _, _, _, _, _, _, _, _, _, _, _, _, _, _, _, _] [17,18,19,20,21,22,23,24,25,26,27,28,29,30,31,32,33,34,35] rfl rfl rfl rfl rfl rfl rfl rfl rfl rfl rfl rfl (fun hb => ?_) ?_; rotate_left
   ·
    (try simp only [hcS] at hb)
    refine aqP (op_move rfl rfl) ?_
    refine aqP (op_gtr rfl rfl rfl) ?_
    refine aqP (op_move rfl rfl) ?_
    refine' aqAnd' [_, _, _, _, _, _, _, _, _, _, _, _, _, _, _] [20,21,22,23,24,25,26,27,28,29,30,31,32,33,34] rfl rfl rfl rfl rfl rfl rfl rfl rfl rfl rfl rfl (fun hb => ?_) ?_; rotate_left
    ·
     (try simp only [hcS] at hb)
     refine aqP (op_move rfl rfl) ?_
     refine aqP (op_move rfl rfl) ?_
     (refine aqP (op_subi rfl rfl rfl (by omega)) ?_)
     refine aqP (op_ia_ro (i - 1) rfl (.inl rfl) rfl Try.underlying22 (by simp at hb; omega) (get_mapD (by omega)) (by exact sz75) (bl rfl)) ?_
     (refine aqP (op_fa_rop rfl rfl fl75_0 (by exact sz31) (by decide) (bl rfl) rfl) ?_)
     (refine aqP (op_fa_rop rfl rfl fl31_0 (by exact sz29) (by decide) (bl rfl) rfl) ?_)
     (refine aqR (op_load_rop rfl rfl ag29 sz29 (bl rfl) (by decide) rfl) ?_)
     refine aqP (op_move rfl rfl) ?_
     refine aqP (op_move rfl rfl) ?_
     refine aqP (op_ia_ro i rfl (.inl rfl) rfl Try.underlying22 rfl (get_mapD (by omega)) (by exact sz75) (bl rfl)) ?_
     (refine aqP (op_fa_rop rfl rfl fl75_0 (by exact sz31) (by decide) (bl rfl) rfl) ?_)
     (refine aqP (op_fa_rop rfl rfl fl31_0 (by exact sz29) (by decide) (bl rfl) rfl) ?_)
     (refine aqR (op_load_rop rfl rfl ag29 sz29 (bl rfl) (by decide) rfl) ?_)
     refine aqQ (op_callQ (b := true) rfl en68 (C68 (p := (l.getD (i - 1) default).piece.plate) (q := (l.getD i default).piece.plate)) (RL.cons (by exact View.same rfl) (RL.cons (by exact View.same rfl) (RL.nil))) rfl) ?_; (simp only [nA, ↓reduceIte])
     refine aqP (op_geq rfl rfl rfl) ?_
     (refine aqSeg rfl rfl rfl ?_; repeat (first | exact fun _ _ => rfl | refine upd_out rfl ?_))
    simp only [nA, ↓reduceIte]
    (refine aqSeg rfl rfl rfl ?_; repeat (first | exact fun _ _ => rfl | refine upd_out rfl ?_ | refine era_out rfl ?_))
   simp only [nA]
   refine AQ.nil ?_
   (refine hK _ ?_; clear hK K; (skip))
   refine AW.cond rfl rfl rfl (fun hc => ?_) (fun hc => ?_)
   ·
    (try simp only [hcS] at hc); have hc2 := hc
    (refine AW.seq_k ?_; intro K hK)
    refine AW.region ?_
    refine awP (op_assign rfl rfl) ?_
    refine AWL.nil ?_
    (refine hK _ ?_; clear hK K; (simp only [nA, Nat.reduceBEq, Nat.reduceEqDiff, ↓reduceIte, Nat.reduceAdd, Nat.reduceSub]))
    skip
    refine AW.ret ?_; (simp only [thenE, inBlk, Nat.reduceEqDiff, ↓reduceIte]); rw [grs_no hlt (by simpa [grBad] using hc2)]; exact RQ.of0 rfl (.tmp (bl rfl) rfl rfl .nil)
   (try simp only [hcS] at hc); have hc2 := hc
   refine AW.skip ?_
   simp only [thenE, inBlk, Nat.reduceEqDiff, ↓reduceIte]
   (refine hK _ ?_; clear hK K; (skip))
   refine AW.region ?_
   refine awP (op_move rfl rfl) ?_
   (refine awP (op_addi rfl rfl rfl (by omega)) ?_)
   refine awP (op_assign rfl rfl) ?_
   skip
   refine AWL.nil ?_
   refine ⟨i + 1, ⟨by omega, all_f_step hi.2 (by simp at hc2; simp [grBad]; exact ⟨hc2.1, fun c => hc2.2.resolve_left (by omega)⟩)⟩, by omega, ⟨rfl, rfl, trivial⟩, (by rfl), (by rfl)⟩
  (try simp only [hcS] at hc); have hc1 := hc
  refine AW.exit ?_; (simp only [thenE, inBlk, Nat.reduceEqDiff, ↓reduceIte])
  clear hK K
  (refine hK _ ?_; clear hK K; (skip))
  (refine AW.seq_k ?_; intro K hK)
  refine AW.region ?_
  refine awP (op_move rfl rfl) ?_
  refine awP (op_len_ro (n := l.length) rfl rfl Try.underlying22 (.inr (.inl ⟨_, rfl, by simp⟩))) ?_
  refine awP (op_leq rfl rfl rfl) ?_
  refine awP (op_assign rfl rfl) ?_
  refine AWL.nil ?_
  (refine hK _ ?_; clear hK K; (simp only [nA, ↓reduceIte]))
  skip
  refine AW.ret ?_; rw [grs_yes (i := i) (by simp at hc1; omega) hi.2]; exact RQ.of0 rfl (.tmp (bl rfl) rfl rfl .nil)
def empB (l : List Container) : Bool := l.all (fun c => decide (c.pieces.length = 0)) && decide (chkL l = 0)
theorem emp_no {l : List Container} {i : Nat} (h : i < l.length) (hb : ((l.getD i default).pieces.length : Int) > 0) : empB l = false := by
  unfold empB
  rw [List.all_eq_false.2 ⟨l[i], List.getElem_mem h, by
    rw [List.getD_eq_getElem?_getD, List.getElem?_eq_getElem h] at hb
    simp only [Option.getD_some] at hb
    simp only [decide_eq_true_eq]; omega⟩, Bool.false_and]
theorem emp_yes {l : List Container} {i : Nat} (h : ¬ i < l.length) (hb : ∀ k, k < i → (l.getD k default).pieces.length = 0) : empB l = decide (chkL l = 0) := by
  unfold empB
  rw [List.all_eq_true.2 fun c hc => by
    obtain ⟨k, hk, rfl⟩ := List.getElem_of_mem hc
    have := hb k (by omega)
    rw [List.getD_eq_getElem?_getD, List.getElem?_eq_getElem hk] at this
    simpa using this, Bool.true_and]
theorem C49 {h : Hand} (hs : h.Sm) : Fn Try.prog 49 [] [.agg h.av] [.v (.bool (empB h.conts))] [] := by
  have h1 := hs.c
  refine Spec.body Try.func49 rfl Try.ntmps49 (by simp) rfl ?_; intro S0 own0 v0 w0
  (refine AW.seq_k ?_; intro K hK)
  refine AW.region ?_
  refine awJ (op_box rfl rfl rfl sz87 rfl) ?_; (simp only [nA, Nat.reduceBEq, Nat.reduceEqDiff, ↓reduceIte])
  refine awP (op_assign rfl rfl) ?_
  refine AWL.nil ?_
  (refine hK _ ?_; clear hK K; (simp only [nA, Nat.reduceBEq, Nat.reduceEqDiff, ↓reduceIte, Nat.reduceAdd, Nat.reduceSub]))
  (refine AW.seq_k ?_; intro K hK)
  (refine AW.seq_k ?_; intro K hK)
  refine AW.region ?_
  (refine awP (op_fa_ptr rfl rfl rfl fl87_5 (by exact sz23) (by decide) rfl) ?_)
  (refine awR (op_load_ptr1 rfl rfl rfl rfl ag23 rfl rfl) ?_)
  refine awP (op_len_ro (n := h.conts.length) rfl rfl Try.underlying23 (.inr (.inl ⟨_, rfl, by simp⟩))) ?_
  refine awP (op_move rfl rfl) ?_
  refine AWL.nil ?_
  (refine hK _ ?_; clear hK K; (simp only [nA, Nat.reduceBEq, Nat.reduceEqDiff, ↓reduceIte, Nat.reduceAdd, Nat.reduceSub]))
  refine AW.block ?_
  refine AW.loopI (fun i => [(1, .ptr 0 1 0 0), (6, .ro (h.conts.map Container.av)), (7, .v (.int .i64 h.conts.length)), (8, .v (.int .i64 (i : Nat)))]) (fun i => ⟨[(1, .own 87 [h.av])], 2 + i⟩) (fun i => i ≤ h.conts.length ∧ ∀ k, k < i → (h.conts.getD k default).pieces.length = 0) (fun i => h.conts.length - i) 0 (by simp) ⟨rfl, rfl, rfl, rfl, trivial⟩ rfl ?_; intro i ρ hi; simp only [updL]
  (refine AW.seq_k ?_; intro K hK)
  refine AW.region ?_
  refine awP (op_lss rfl rfl rfl) ?_
  refine AWL.nil ?_
  (refine hK _ ?_; clear hK K; (simp only [nA, Nat.reduceBEq, Nat.reduceEqDiff, ↓reduceIte, Nat.reduceAdd, Nat.reduceSub]))
  (refine AW.seq_k ?_; intro K hK)
  refine AW.cond rfl rfl rfl (fun hc => ?_) (fun hc => ?_)
  ·
   (try simp only [hcS] at hc); have hc1 := hc; have hlt : i < h.conts.length := (by simpa using hc1)
   refine AW.skip ?_
   (refine hK _ ?_; clear hK K; (skip))
   (refine AW.seq_k ?_; intro K hK)
   refine AW.block ?_
   (refine AW.seq_k ?_; intro K hK)
   refine AW.region ?_
   refine awP (op_ia_ro i rfl (.inl rfl) rfl Try.underlying23 rfl (get_mapD (by omega)) (by exact sz77) (bl rfl)) ?_
   (refine awR (op_load_rop rfl rfl ag77 sz77 (bl rfl) (by decide) rfl) ?_)
   refine awJ (op_alloc rfl ze77 rfl) ?_; (simp only [nA, Nat.reduceBEq, Nat.reduceEqDiff, ↓reduceIte, Nat.reduceAdd, Nat.reduceSub])
   refine awJ (op_store rfl rfl rfl rfl rfl rfl sz77 rfl (bl rfl) rfl) ?_; (simp only [nA, Nat.reduceBEq, Nat.reduceEqDiff, ↓reduceIte])
   refine AWL.nil ?_
   (refine hK _ ?_; clear hK K; (skip))
   (refine AW.seq_k ?_; intro K hK)
   refine AW.region ?_
   (refine awP (op_fa_ptr rfl rfl rfl fl77_7 (by exact sz53) (by decide) rfl) ?_)
   (refine awR (op_load_ptr1 rfl rfl rfl rfl ag53 rfl rfl) ?_)
   refine awP (op_len_ro (n := (h.conts.getD i default).pieces.length) rfl rfl Try.underlying53 (.inr (.inl ⟨_, rfl, by simp⟩))) ?_
   refine awP (op_gtr rfl rfl rfl) ?_
   refine AWL.nil ?_
   (refine hK _ ?_; clear hK K; (simp only [nA, Nat.reduceBEq, Nat.reduceEqDiff, ↓reduceIte, Nat.reduceAdd, Nat.reduceSub]))
   refine AW.cond rfl rfl rfl (fun hc => ?_) (fun hc => ?_)
   ·
    (try simp only [hcS] at hc); have hc2 := hc
    (refine AW.seq_k ?_; intro K hK)
    refine AW.region ?_
    refine awP (op_assign rfl rfl) ?_
    refine AWL.nil ?_
    (refine hK _ ?_; clear hK K; (simp only [nA, Nat.reduceBEq, Nat.reduceEqDiff, ↓reduceIte, Nat.reduceAdd, Nat.reduceSub]))
    skip
    refine AW.ret ?_; (simp only [thenE, inBlk, Nat.reduceEqDiff, ↓reduceIte]); rw [emp_no hlt (by simpa using hc2)]; exact RQ.of0 rfl (.tmp (bl rfl) rfl rfl .nil)
   (try simp only [hcS] at hc); have hc2 := hc
   refine AW.skip ?_
   simp only [thenE, inBlk, Nat.reduceEqDiff, ↓reduceIte]
   (refine hK _ ?_; clear hK K; (skip))
   refine AW.region ?_
   (refine awP (op_addi rfl rfl rfl (by omega)) ?_)
   refine awP (op_move rfl rfl) ?_
   refine AWL.gh (Gh.drop 1) ?_; (simp only [nA])
   refine AWL.nil ?_
   refine ⟨i + 1, ⟨by omega, fun k hk => ?_⟩, by omega, ⟨rfl, rfl, rfl, rfl, trivial⟩, (by rfl), (by rfl)⟩; (rcases Nat.lt_or_ge k i with h' | h'; exact hi.2 k h'; (obtain rfl : k = i := by omega); (simp at hc2; simpa using hc2))
  (try simp only [hcS] at hc); have hc1 := hc
  refine AW.exit ?_; (simp only [thenE, inBlk, Nat.reduceEqDiff, ↓reduceIte])
  clear hK K
  (refine hK _ ?_; clear hK K; (skip))
  (refine AW.seq_k ?_; intro K hK)
  refine AW.region ?_
  (refine awP (op_fa_ptr rfl rfl rfl fl87_5 (by exact sz23) (by decide) rfl) ?_)
  (refine awR (op_load_ptr1 rfl rfl rfl rfl ag23 rfl rfl) ?_)
  refine awJ (OpQ.j (op_callQ (b := true) rfl en64 (C64 (xs := h.conts) (by omega)) (RL.cons (by exact View.same rfl) (RL.nil)) rfl)) ?_; (simp only [nA, Nat.reduceBEq, Nat.reduceEqDiff, ↓reduceIte, Nat.reduceAdd, Nat.reduceSub])
  (refine awP (op_eql rfl rfl rfl) ?_)
  refine awP (op_assign rfl rfl) ?_
  refine AWL.nil ?_
  (refine hK _ ?_; clear hK K; (simp only [nA]))
  skip
  refine AW.ret ?_; rw [emp_yes (i := i) (by simp at hc1; omega) hi.2]; exact RQ.of0 rfl (.tmp (bl rfl) rfl rfl .nil)
end Go.Proofs.Ytdnofpggdddimaa
namespace Go.Proofs.Ytdnofpggdddimaa
open Go.RowKit
set_option linter.unusedSimpArgs false
set_option linter.unusedVariables false
set_option maxRecDepth 100000
def lgBad (h : Hand) (i : Nat) : Bool := ((!opB (h.log.getD i default) || !decide ((h.log.getD i default).device = h.number)) || !decide ((h.log.getD i default).seq = (h.next - h.log.length) + i)) || (decide ((i : Int) > 0) && decide ((h.log.getD i default).time < (h.log.getD (i - 1) default).time))
def lgLast (h : Hand) : Bool := decide ((h.log.length : Int) = 0) || decide ((h.log.getD (h.log.length - 1) default).time ≤ h.last)
def logB (h : Hand) : Bool := (decide ((h.log.length : Int) ≤ 60) && (List.range h.log.length).all fun i => !lgBad h i) && lgLast h
theorem log_no {h : Hand} {i : Nat} (hi : i < h.log.length) (hb : lgBad h i = true) : logB h = false := by
  unfold logB
  rw [all_range_no hi (by rw [hb]; rfl), Bool.and_false, Bool.false_and]
theorem log_yes {h : Hand} {i : Nat} (hi : ¬ i < h.log.length) (hb : ∀ k, k < i → lgBad h k = false) : logB h = (decide ((h.log.length : Int) ≤ 60) && lgLast h) := by
  unfold logB
  rw [all_range_yes hi (fun k hk => by rw [hb k hk]; rfl), Bool.and_true]
theorem or_false_of {a b : Bool} (h : (a || b) = false) : a = false ∧ b = false := by simpa using h
theorem C50 {h : Hand} (hs : h.Sm) (hn : 0 ≤ h.next ∧ h.next ≤ 1048576) : Fn Try.prog 50 [] [.agg h.av] [.v (.bool (logB h))] [] := by
  have h1 := hs.l
  refine Spec.body Try.func50 rfl Try.ntmps50 (by simp) rfl ?_; intro S0 own0 v0 w0
  (refine AW.seq_k ?_; intro K hK)
  refine AW.region ?_
  refine awJ (op_box rfl rfl rfl sz87 rfl) ?_; (simp only [nA, Nat.reduceBEq, Nat.reduceEqDiff, ↓reduceIte])
  refine awP (op_assign rfl rfl) ?_
  refine AWL.nil ?_
  (refine hK _ ?_; clear hK K; (simp only [nA, Nat.reduceBEq, Nat.reduceEqDiff, ↓reduceIte, Nat.reduceAdd, Nat.reduceSub]))
  (refine AW.seq_k ?_; intro K hK)
  (refine AW.seq_k ?_; intro K hK)
  refine AW.region ?_
  (refine awP (op_fa_ptr rfl rfl rfl fl87_6 (by exact sz24) (by decide) rfl) ?_)
  (refine awR (op_load_ptr1 rfl rfl rfl rfl ag24 rfl rfl) ?_)
  refine awP (op_len_ro (n := h.log.length) rfl rfl Try.underlying24 (.inr (.inl ⟨_, rfl, by simp⟩))) ?_
  refine awP (op_gtr rfl rfl rfl) ?_
  refine AWL.nil ?_
  (refine hK _ ?_; clear hK K; (simp only [nA, Nat.reduceBEq, Nat.reduceEqDiff, ↓reduceIte, Nat.reduceAdd, Nat.reduceSub]))
  refine AW.cond rfl rfl rfl (fun hc => ?_) (fun hc => ?_)
  ·
   have hc1 := hc
   (refine AW.seq_k ?_; intro K hK)
   refine AW.region ?_
   refine awP (op_assign rfl rfl) ?_
   refine AWL.nil ?_
   (refine hK _ ?_; clear hK K; (simp only [nA, Nat.reduceBEq, Nat.reduceEqDiff, ↓reduceIte, Nat.reduceAdd, Nat.reduceSub]))
   skip
   refine AW.ret ?_; (simp only [thenE, inBlk, Nat.reduceEqDiff, ↓reduceIte]); rw [show logB h = false by unfold logB; rw [decide_eq_false (by have := of_decide_eq_true hc1; omega)]; rfl]; exact RQ.of0 rfl (.tmp (bl rfl) rfl rfl .nil)
  have hc1 := hc
  refine AW.skip ?_
  (refine hK _ ?_; clear hK K; (skip))
  (refine AW.seq_k ?_; intro K hK)
  (refine AW.seq_k ?_; intro K hK)
  refine AW.region ?_
  (refine awP (op_fa_ptr rfl rfl rfl fl87_6 (by exact sz24) (by decide) rfl) ?_)
  (refine awR (op_load_ptr1 rfl rfl rfl rfl ag24 rfl rfl) ?_)
  refine awP (op_len_ro (n := h.log.length) rfl rfl Try.underlying24 (.inr (.inl ⟨_, rfl, by simp⟩))) ?_
  refine awP (op_move rfl rfl) ?_
  refine AWL.nil ?_
  (refine hK _ ?_; clear hK K; (simp only [nA, Nat.reduceBEq, Nat.reduceEqDiff, ↓reduceIte, Nat.reduceAdd, Nat.reduceSub]))
  refine AW.block ?_
  refine AW.loopI (fun i => [(1, .ptr 0 1 0 0), (10, .ro (h.log.map Op.av)), (11, .v (.int .i64 h.log.length)), (12, .v (.int .i64 (i : Nat)))]) (fun i => ⟨[(1, .own 87 [h.av])], 2 + i⟩) (fun i => i ≤ h.log.length ∧ ∀ k, k < i → lgBad h k = false) (fun i => h.log.length - i) 0 (by simp) ⟨rfl, rfl, rfl, rfl, trivial⟩ rfl ?_; intro i ρ hi; simp only [updL]
  (refine AW.seq_k ?_; intro K hK)
  refine AW.region ?_
  refine awP (op_lss rfl rfl rfl) ?_
  refine AWL.nil ?_
  (refine hK _ ?_; clear hK K; (simp only [nA, Nat.reduceBEq, Nat.reduceEqDiff, ↓reduceIte, Nat.reduceAdd, Nat.reduceSub]))
  (refine AW.seq_k ?_; intro K hK)
  refine AW.cond rfl rfl rfl (fun hc => ?_) (fun hc => ?_)
  ·
   have hc2 := hc; have hlt : i < h.log.length := (by simpa using hc2)
   refine AW.skip ?_
   (refine hK _ ?_; clear hK K; (skip))
   (refine AW.seq_k ?_; intro K hK)
   refine AW.block ?_
   (refine AW.seq_k ?_; intro K hK)
   refine AW.region ?_
   refine awP (op_move rfl rfl) ?_
   refine awP (op_ia_ro i rfl (.inl rfl) rfl Try.underlying24 rfl (get_mapD (by omega)) (by exact sz33) (bl rfl)) ?_
   (refine awR (op_load_rop rfl rfl ag33 sz33 (bl rfl) (by decide) rfl) ?_)
   refine awJ (op_alloc rfl ze33 rfl) ?_; (simp only [nA, ↓reduceIte])
   refine awP (op_assign rfl rfl) ?_
   refine awJ (op_store rfl rfl rfl rfl rfl rfl sz33 rfl (bl rfl) rfl) ?_; (simp only [nA, Nat.reduceBEq, Nat.reduceEqDiff, ↓reduceIte])
   refine AWL.nil ?_
   (refine hK _ ?_; clear hK K; (skip))
   (refine AW.seq_k ?_; intro K hK)
   refine AW.quiet mix (by kernel_rfl) ?_
   (refine aqR (op_load_ptr rfl rfl rfl rfl ag33 sz33 (bl rfl) rfl) ?_)
   refine aqQ (op_callQ (b := true) rfl en20 (C20 (o := h.log.getD i default)) (RL.cons (by exact View.same rfl) (RL.nil)) rfl) ?_; (simp only [nA, Nat.reduceBEq, Nat.reduceEqDiff, ↓reduceIte, Nat.reduceAdd, Nat.reduceSub])
   refine aqP (op_not rfl rfl rfl) ?_
   refine aqP (op_move rfl rfl) ?_
   refine' aqOr' [_, _, _, _, _] [21,22,23,24,25] rfl rfl rfl rfl rfl rfl rfl rfl rfl rfl rfl rfl (fun hb => ?_) ?_; rotate_left
   ·
    (try simp only [hcS] at hb)
    (refine aqP (op_fa_ptr rfl rfl rfl fl33_1 (by exact sz3) (by decide) rfl) ?_)
    (refine aqR (op_load_ptr1 rfl rfl rfl rfl ag3 rfl rfl) ?_)
    (refine aqP (op_fa_ptr rfl rfl rfl fl87_0 (by exact sz3) (by decide) rfl) ?_)
    (refine aqR (op_load_ptr1 rfl rfl rfl rfl ag3 rfl rfl) ?_)
    (refine aqP (op_neq rfl rfl rfl) ?_)
    (refine aqSeg rfl rfl rfl ?_; repeat (first | exact fun _ _ => rfl | refine upd_out rfl ?_))
   simp only [nA]
   refine aqP (op_move rfl rfl) ?_
   refine' aqOr' [_, _, _, _, _, _, _, _, _, _, _] [28,29,30,31,32,33,34,35,36,37,38] rfl rfl rfl rfl rfl rfl rfl rfl rfl rfl rfl rfl (fun hb => ?_) ?_; rotate_left
   ·
    (try simp only [hcS] at hb)
    (refine aqP (op_fa_ptr rfl rfl rfl fl33_2 (by exact sz3) (by decide) rfl) ?_)
    (refine aqR (op_load_ptr1 rfl rfl rfl rfl ag3 rfl rfl) ?_)
    (refine aqP (op_fa_ptr rfl rfl rfl fl87_1 (by exact sz3) (by decide) rfl) ?_)
    (refine aqR (op_load_ptr1 rfl rfl rfl rfl ag3 rfl rfl) ?_)
    (refine aqP (op_fa_ptr rfl rfl rfl fl87_6 (by exact sz24) (by decide) rfl) ?_)
    (refine aqR (op_load_ptr1 rfl rfl rfl rfl ag24 rfl rfl) ?_)
    refine aqP (op_len_ro (n := h.log.length) rfl rfl Try.underlying24 (.inr (.inl ⟨_, rfl, by simp⟩))) ?_
    (refine aqP (op_subi rfl rfl rfl (by omega)) ?_)
    refine aqP (op_move rfl rfl) ?_
    (refine aqP (op_addi rfl rfl rfl (by omega)) ?_)
    (refine aqP (op_neq rfl rfl rfl) ?_)
    (refine aqSeg rfl rfl rfl ?_; repeat (first | exact fun _ _ => rfl | refine upd_out rfl ?_))
   simp only [nA]
   refine aqP (op_move rfl rfl) ?_
   refine' aqOrN' [_, _, _, _, _, _, _, _, _, _, _, _, _, _] [41,42,43,44,45,46,47,48,49,50,51,52,53,54] rfl rfl rfl rfl rfl rfl rfl rfl rfl rfl rfl rfl (fun hb => ?_) ?_; rotate_left
   ·
    (try simp only [hcS] at hb)
    refine aqP (op_move rfl rfl) ?_
    refine aqP (op_gtr rfl rfl rfl) ?_
    refine aqP (op_move rfl rfl) ?_
    refine' aqAnd' [_, _, _, _, _, _, _, _, _, _] [44,45,46,47,48,49,50,51,52,53] rfl rfl rfl rfl rfl rfl rfl rfl rfl rfl rfl rfl (fun hb => ?_) ?_; rotate_left
    ·
     (try simp only [hcS] at hb)
     (refine aqP (op_fa_ptr rfl rfl rfl fl33_0 (by exact sz3) (by decide) rfl) ?_)
     (refine aqR (op_load_ptr1 rfl rfl rfl rfl ag3 rfl rfl) ?_)
     (refine aqP (op_fa_ptr rfl rfl rfl fl87_6 (by exact sz24) (by decide) rfl) ?_)
     (refine aqR (op_load_ptr1 rfl rfl rfl rfl ag24 rfl rfl) ?_)
     refine aqP (op_move rfl rfl) ?_
     (refine aqP (op_subi rfl rfl rfl (by omega)) ?_)
     refine aqP (op_ia_ro (i - 1) rfl (.inl rfl) rfl Try.underlying24 (by simp at hb; omega) (get_mapD (by omega)) (by exact sz33) (bl rfl)) ?_
     (refine aqP (op_fa_rop rfl rfl fl33_0 (by exact sz3) (by decide) (bl rfl) rfl) ?_)
     (refine aqR (op_load_rop1 rfl rfl ag3) ?_)
     refine aqP (op_lss rfl rfl rfl) ?_
     (refine aqSeg rfl rfl rfl ?_; repeat (first | exact fun _ _ => rfl | refine upd_out rfl ?_))
    simp only [nA, Nat.reduceEqDiff, ↓reduceIte]
    (refine aqSeg rfl rfl rfl ?_; repeat (first | exact fun _ _ => rfl | refine upd_out rfl ?_ | refine era_out rfl ?_))
   simp only [nA]
   refine AQ.nil ?_
   (refine hK _ ?_; clear hK K; (skip))
   refine AW.cond rfl rfl rfl (fun hc => ?_) (fun hc => ?_)
   ·
    have hc3 := hc
    (refine AW.seq_k ?_; intro K hK)
    refine AW.region ?_
    refine awP (op_assign rfl rfl) ?_
    refine AWL.nil ?_
    (refine hK _ ?_; clear hK K; (simp only [nA, Nat.reduceBEq, Nat.reduceEqDiff, ↓reduceIte, Nat.reduceAdd, Nat.reduceSub]))
    skip
    refine AW.ret ?_; (simp only [thenE, inBlk, Nat.reduceEqDiff, ↓reduceIte]); rw [log_no hlt hc3]; exact RQ.of0 rfl (.tmp (bl rfl) rfl rfl .nil)
   have hc3 := hc
   refine AW.skip ?_
   simp only [thenE, inBlk, Nat.reduceEqDiff, ↓reduceIte]
   (refine hK _ ?_; clear hK K; (skip))
   refine AW.region ?_
   (refine awP (op_addi rfl rfl rfl (by omega)) ?_)
   refine awP (op_move rfl rfl) ?_
   refine AWL.gh (Gh.drop 1) ?_; (simp only [nA])
   refine AWL.nil ?_
   refine ⟨i + 1, ⟨by omega, all_f_step hi.2 hc3⟩, by omega, ⟨rfl, rfl, rfl, rfl, trivial⟩, (by rfl), (by rfl)⟩
  have hc2 := hc; have hnl : ¬ i < h.log.length := (by simpa using hc2)
  refine AW.exit ?_; (simp only [thenE, inBlk, Nat.reduceEqDiff, ↓reduceIte])
  clear hK K
  (refine hK _ ?_; clear hK K; (skip))
  (refine AW.seq_k ?_; intro K hK)
  refine AW.quiet mix (by kernel_rfl) ?_
  (refine aqP (op_fa_ptr rfl rfl rfl fl87_6 (by exact sz24) (by decide) rfl) ?_)
  (refine aqR (op_load_ptr1 rfl rfl rfl rfl ag24 rfl rfl) ?_)
  refine aqP (op_len_ro (n := h.log.length) rfl rfl Try.underlying24 (.inr (.inl ⟨_, rfl, by simp⟩))) ?_
  (refine aqP (op_eql rfl rfl rfl) ?_)
  refine aqP (op_move rfl rfl) ?_
  refine' aqOr' [_, _, _, _, _, _, _, _, _, _, _, _] [62,63,64,65,66,67,68,69,70,71,72,73] rfl rfl rfl rfl rfl rfl rfl rfl rfl rfl rfl rfl (fun hb => ?_) ?_; rotate_left
  ·
   (try simp only [hcS] at hb)
   (refine aqP (op_fa_ptr rfl rfl rfl fl87_6 (by exact sz24) (by decide) rfl) ?_)
   (refine aqR (op_load_ptr1 rfl rfl rfl rfl ag24 rfl rfl) ?_)
   (refine aqP (op_fa_ptr rfl rfl rfl fl87_6 (by exact sz24) (by decide) rfl) ?_)
   (refine aqR (op_load_ptr1 rfl rfl rfl rfl ag24 rfl rfl) ?_)
   refine aqP (op_len_ro (n := h.log.length) rfl rfl Try.underlying24 (.inr (.inl ⟨_, rfl, by simp⟩))) ?_
   (refine aqP (op_subi rfl rfl rfl (by omega)) ?_)
   refine aqP (op_ia_ro (h.log.length - 1) rfl (.inl rfl) rfl Try.underlying24 (by omega) (get_mapD (by omega)) (by exact sz33) (bl rfl)) ?_
   (refine aqP (op_fa_rop rfl rfl fl33_0 (by exact sz3) (by decide) (bl rfl) rfl) ?_)
   (refine aqR (op_load_rop1 rfl rfl ag3) ?_)
   (refine aqP (op_fa_ptr rfl rfl rfl fl87_2 (by exact sz3) (by decide) rfl) ?_)
   (refine aqR (op_load_ptr1 rfl rfl rfl rfl ag3 rfl rfl) ?_)
   refine aqP (op_leq rfl rfl rfl) ?_
   (refine aqSeg rfl rfl rfl ?_; repeat (first | exact fun _ _ => rfl | refine upd_out rfl ?_))
  simp only [nA]
  refine aqP (op_assign rfl rfl) ?_
  refine AQ.nil ?_
  (refine hK _ ?_; clear hK K; (simp only [nA]))
  skip
  refine AW.ret ?_; rw [show logB h = lgLast h by rw [log_yes hnl hi.2, decide_eq_true (by have := of_decide_eq_false hc1; omega), Bool.true_and]]; exact RQ.of0 rfl (.tmp (bl rfl) rfl rfl .nil)
end Go.Proofs.Ytdnofpggdddimaa
namespace Go.Proofs.Ytdnofpggdddimaa
open Go.RowKit
set_option linter.unusedSimpArgs false
set_option linter.unusedVariables false
set_option maxRecDepth 100000
def lgBadR (h : Hand) (i : Nat) : Bool := lgBad h i || decide ((h.log.getD i default).time > h.last)
def logR (h : Hand) : Bool := ((List.range h.log.length).all fun i => !lgBadR h i) && decide ((h.log.length : Int) ≤ 60)
theorem asc_time {h : Hand} (hb : ∀ k, k < h.log.length → lgBad h k = false) : ∀ (d i : Nat), i + d < h.log.length → (h.log.getD i default).time ≤ (h.log.getD (i + d) default).time
  | 0, i, _ => Int.le_refl _
  | d + 1, i, hl => by
    have h1 := asc_time hb d i (by omega)
    have h2 := (or_false_of (hb (i + d + 1) hl)).2
    rw [show i + d + 1 - 1 = i + d by omega, decide_eq_true (by omega), Bool.true_and, decide_eq_false_iff_not] at h2
    rw [show i + (d + 1) = i + d + 1 by omega]
    omega
theorem logR_eq (h : Hand) : logR h = logB h := by
  by_cases hb : ∀ k, k < h.log.length → lgBad h k = false
  · rw [log_yes (i := h.log.length) (by omega) hb]
    unfold logR
    rw [Bool.and_comm]
    congr 1
    by_cases h0 : h.log.length = 0
    · rw [show lgLast h = true by unfold lgLast; rw [decide_eq_true (by omega), Bool.true_or], h0]; rfl
    have e : lgLast h = decide ((h.log.getD (h.log.length - 1) default).time ≤ h.last) := by unfold lgLast; rw [decide_eq_false (by omega), Bool.false_or]
    rw [e]
    by_cases hl : (h.log.getD (h.log.length - 1) default).time ≤ h.last
    · rw [decide_eq_true hl]
      refine all_range_yes (i := h.log.length) (by omega) fun k hk => ?_
      have := asc_time hb (h.log.length - 1 - k) k (by omega)
      rw [show k + (h.log.length - 1 - k) = h.log.length - 1 by omega] at this
      unfold lgBadR
      rw [hb k hk, decide_eq_false (by omega)]; rfl
    rw [decide_eq_false hl]
    exact all_range_no (i := h.log.length - 1) (by omega) (by unfold lgBadR; rw [decide_eq_true (by omega)]; simp)
  have : ∃ k, k < h.log.length ∧ lgBad h k = true := by
    refine Classical.byContradiction fun hc => hb fun k hk => ?_
    cases e : lgBad h k with
    | false => rfl
    | true => exact absurd ⟨k, hk, e⟩ hc
  obtain ⟨k, hk, e⟩ := this
  rw [log_no hk e]
  unfold logR
  rw [all_range_no hk (by unfold lgBadR; rw [e]; rfl), Bool.false_and]
theorem C53r {h : Hand} (hs : h.Sm) (hn : 0 ≤ h.next ∧ h.next ≤ 1048576) : Fn Try.prog 53 [] [.agg h.av] [.v (.bool (logR h))] [] := by
  have h1 := hs.l
  refine Spec.body Try.func53 rfl Try.ntmps53 (by simp) rfl ?_; intro S0 own0 v0 w0
  (refine AW.seq_k ?_; intro K hK)
  refine AW.region ?_
  refine awJ (op_box rfl rfl rfl sz26 rfl) ?_; (simp only [nA, Nat.reduceBEq, Nat.reduceEqDiff, ↓reduceIte])
  refine awP (op_assign rfl rfl) ?_
  refine AWL.nil ?_
  (refine hK _ ?_; clear hK K; (simp only [nA, Nat.reduceBEq, Nat.reduceEqDiff, ↓reduceIte, Nat.reduceAdd, Nat.reduceSub]))
  (refine AW.seq_k ?_; intro K hK)
  (refine AW.seq_k ?_; intro K hK)
  refine AW.region ?_
  refine awP (op_assign rfl rfl) ?_
  refine AWL.nil ?_
  (refine hK _ ?_; clear hK K; (simp only [nA, Nat.reduceBEq, Nat.reduceEqDiff, ↓reduceIte, Nat.reduceAdd, Nat.reduceSub]))
  refine AW.block ?_
  refine AW.loopI (fun i => [(1, .ptr 0 1 0 0), (3, .v (.int .i64 (i : Nat)))]) (fun i => ⟨[(1, .own 26 [h.av])], 2 + i⟩) (fun i => i ≤ h.log.length ∧ ∀ k, k < i → lgBadR h k = false) (fun i => h.log.length - i) 0 (by simp) ⟨rfl, rfl, trivial⟩ rfl ?_; intro i ρ hi; simp only [updL]
  (refine AW.seq_k ?_; intro K hK)
  (refine AW.seq_k ?_; intro K hK)
  refine AW.region ?_
  refine awP (op_move rfl rfl) ?_
  (refine awP (op_fa_ptr rfl rfl rfl fl26_6 (by exact sz24) (by decide) rfl) ?_)
  (refine awR (op_load_ptr1 rfl rfl rfl rfl ag24 rfl rfl) ?_)
  refine awP (op_len_ro (n := h.log.length) rfl rfl Try.underlying24 (.inr (.inl ⟨_, rfl, by simp⟩))) ?_
  refine awP (op_lss rfl rfl rfl) ?_
  refine AWL.nil ?_
  (refine hK _ ?_; clear hK K; (simp only [nA, ↓reduceIte]))
  refine AW.cond rfl rfl rfl (fun hc => ?_) (fun hc => ?_)
  ·
   have hc1 := hc; have hlt : i < h.log.length := (by simpa using hc1)
   refine AW.skip ?_
   (refine hK _ ?_; clear hK K; (skip))
   (refine AW.seq_k ?_; intro K hK)
   refine AW.block ?_
   (refine AW.seq_k ?_; intro K hK)
   refine AW.region ?_
   (refine awP (op_fa_ptr rfl rfl rfl fl26_6 (by exact sz24) (by decide) rfl) ?_)
   (refine awR (op_load_ptr1 rfl rfl rfl rfl ag24 rfl rfl) ?_)
   refine awP (op_move rfl rfl) ?_
   refine awP (op_ia_ro i rfl (.inl rfl) rfl Try.underlying24 rfl (get_mapD (by omega)) (by exact sz33) (bl rfl)) ?_
   (refine awR (op_load_rop rfl rfl ag33 sz33 (bl rfl) (by decide) rfl) ?_)
   refine awJ (op_alloc rfl ze33 rfl) ?_; (simp only [nA, ↓reduceIte])
   refine awJ (op_store rfl rfl rfl rfl rfl rfl sz33 rfl (bl rfl) rfl) ?_; (simp only [nA, Nat.reduceBEq, Nat.reduceEqDiff, ↓reduceIte])
   refine AWL.nil ?_
   (refine hK _ ?_; clear hK K; (skip))
   (refine AW.seq_k ?_; intro K hK)
   refine AW.quiet mix (by kernel_rfl) ?_
   (refine aqR (op_load_ptr rfl rfl rfl rfl ag33 sz33 (bl rfl) rfl) ?_)
   refine aqQ (op_callQ (b := true) rfl en21 (C21 (o := h.log.getD i default)) (RL.cons (by exact View.same rfl) (RL.nil)) rfl) ?_; (simp only [nA, Nat.reduceBEq, Nat.reduceEqDiff, ↓reduceIte, Nat.reduceAdd, Nat.reduceSub])
   refine aqP (op_not rfl rfl rfl) ?_
   refine aqP (op_move rfl rfl) ?_
   refine' aqOr' [_, _, _, _, _] [21,22,23,24,25] rfl rfl rfl rfl rfl rfl rfl rfl rfl rfl rfl rfl (fun hb => ?_) ?_; rotate_left
   ·
    (try simp only [hcS] at hb)
    (refine aqP (op_fa_ptr rfl rfl rfl fl33_1 (by exact sz3) (by decide) rfl) ?_)
    (refine aqR (op_load_ptr1 rfl rfl rfl rfl ag3 rfl rfl) ?_)
    (refine aqP (op_fa_ptr rfl rfl rfl fl26_0 (by exact sz3) (by decide) rfl) ?_)
    (refine aqR (op_load_ptr1 rfl rfl rfl rfl ag3 rfl rfl) ?_)
    (refine aqP (op_neq rfl rfl rfl) ?_)
    (refine aqSeg rfl rfl rfl ?_; repeat (first | exact fun _ _ => rfl | refine upd_out rfl ?_))
   simp only [nA]
   refine aqP (op_move rfl rfl) ?_
   refine' aqOr' [_, _, _, _, _, _, _, _, _, _, _] [28,29,30,31,32,33,34,35,36,37,38] rfl rfl rfl rfl rfl rfl rfl rfl rfl rfl rfl rfl (fun hb => ?_) ?_; rotate_left
   ·
    (try simp only [hcS] at hb)
    (refine aqP (op_fa_ptr rfl rfl rfl fl33_2 (by exact sz3) (by decide) rfl) ?_)
    (refine aqR (op_load_ptr1 rfl rfl rfl rfl ag3 rfl rfl) ?_)
    (refine aqP (op_fa_ptr rfl rfl rfl fl26_1 (by exact sz3) (by decide) rfl) ?_)
    (refine aqR (op_load_ptr1 rfl rfl rfl rfl ag3 rfl rfl) ?_)
    (refine aqP (op_fa_ptr rfl rfl rfl fl26_6 (by exact sz24) (by decide) rfl) ?_)
    (refine aqR (op_load_ptr1 rfl rfl rfl rfl ag24 rfl rfl) ?_)
    refine aqP (op_len_ro (n := h.log.length) rfl rfl Try.underlying24 (.inr (.inl ⟨_, rfl, by simp⟩))) ?_
    (refine aqP (op_subi rfl rfl rfl (by omega)) ?_)
    refine aqP (op_move rfl rfl) ?_
    (refine aqP (op_addi rfl rfl rfl (by omega)) ?_)
    (refine aqP (op_neq rfl rfl rfl) ?_)
    (refine aqSeg rfl rfl rfl ?_; repeat (first | exact fun _ _ => rfl | refine upd_out rfl ?_))
   simp only [nA]
   refine aqP (op_move rfl rfl) ?_
   refine' aqOrN' [_, _, _, _, _, _, _, _, _, _, _, _, _, _] [41,42,43,44,45,46,47,48,49,50,51,52,53,54] rfl rfl rfl rfl rfl rfl rfl rfl rfl rfl rfl rfl (fun hb => ?_) ?_; rotate_left
   ·
    (try simp only [hcS] at hb)
    refine aqP (op_move rfl rfl) ?_
    refine aqP (op_gtr rfl rfl rfl) ?_
    refine aqP (op_move rfl rfl) ?_
    refine' aqAnd' [_, _, _, _, _, _, _, _, _, _] [44,45,46,47,48,49,50,51,52,53] rfl rfl rfl rfl rfl rfl rfl rfl rfl rfl rfl rfl (fun hb => ?_) ?_; rotate_left
    ·
     (try simp only [hcS] at hb)
     (refine aqP (op_fa_ptr rfl rfl rfl fl33_0 (by exact sz3) (by decide) rfl) ?_)
     (refine aqR (op_load_ptr1 rfl rfl rfl rfl ag3 rfl rfl) ?_)
     (refine aqP (op_fa_ptr rfl rfl rfl fl26_6 (by exact sz24) (by decide) rfl) ?_)
     (refine aqR (op_load_ptr1 rfl rfl rfl rfl ag24 rfl rfl) ?_)
     refine aqP (op_move rfl rfl) ?_
     (refine aqP (op_subi rfl rfl rfl (by omega)) ?_)
     refine aqP (op_ia_ro (i - 1) rfl (.inl rfl) rfl Try.underlying24 (by simp at hb; omega) (get_mapD (by omega)) (by exact sz33) (bl rfl)) ?_
     (refine aqP (op_fa_rop rfl rfl fl33_0 (by exact sz3) (by decide) (bl rfl) rfl) ?_)
     (refine aqR (op_load_rop1 rfl rfl ag3) ?_)
     refine aqP (op_lss rfl rfl rfl) ?_
     (refine aqSeg rfl rfl rfl ?_; repeat (first | exact fun _ _ => rfl | refine upd_out rfl ?_))
    simp only [nA, Nat.reduceEqDiff, ↓reduceIte]
    (refine aqSeg rfl rfl rfl ?_; repeat (first | exact fun _ _ => rfl | refine upd_out rfl ?_ | refine era_out rfl ?_))
   simp only [nA]
   refine aqP (op_move rfl rfl) ?_
   refine' aqOr' [_, _, _, _, _] [57,58,59,60,61] rfl rfl rfl rfl rfl rfl rfl rfl rfl rfl rfl rfl (fun hb => ?_) ?_; rotate_left
   ·
    (try simp only [hcS] at hb)
    (refine aqP (op_fa_ptr rfl rfl rfl fl33_0 (by exact sz3) (by decide) rfl) ?_)
    (refine aqR (op_load_ptr1 rfl rfl rfl rfl ag3 rfl rfl) ?_)
    (refine aqP (op_fa_ptr rfl rfl rfl fl26_2 (by exact sz3) (by decide) rfl) ?_)
    (refine aqR (op_load_ptr1 rfl rfl rfl rfl ag3 rfl rfl) ?_)
    refine aqP (op_gtr rfl rfl rfl) ?_
    (refine aqSeg rfl rfl rfl ?_; repeat (first | exact fun _ _ => rfl | refine upd_out rfl ?_))
   simp only [nA]
   refine AQ.nil ?_
   (refine hK _ ?_; clear hK K; (skip))
   refine AW.cond rfl rfl rfl (fun hc => ?_) (fun hc => ?_)
   ·
    have hc2 := hc
    (refine AW.seq_k ?_; intro K hK)
    refine AW.region ?_
    refine awP (op_assign rfl rfl) ?_
    refine AWL.nil ?_
    (refine hK _ ?_; clear hK K; (simp only [nA, Nat.reduceBEq, Nat.reduceEqDiff, ↓reduceIte, Nat.reduceAdd, Nat.reduceSub]))
    skip
    refine AW.ret ?_; (simp only [thenE, inBlk, Nat.reduceEqDiff, ↓reduceIte]); rw [show logR h = false by unfold logR; rw [all_range_no hlt (by rw [show lgBadR h i = true from hc2]; rfl), Bool.false_and]]; exact RQ.of0 rfl (.tmp (bl rfl) rfl rfl .nil)
   have hc2 := hc
   refine AW.skip ?_
   simp only [thenE, inBlk, Nat.reduceEqDiff, ↓reduceIte]
   (refine hK _ ?_; clear hK K; (skip))
   refine AW.region ?_
   refine awP (op_move rfl rfl) ?_
   (refine awP (op_addi rfl rfl rfl (by omega)) ?_)
   refine awP (op_assign rfl rfl) ?_
   refine AWL.gh (Gh.drop 1) ?_; (simp only [nA, Nat.reduceEqDiff, ↓reduceIte])
   refine AWL.nil ?_
   refine ⟨i + 1, ⟨by omega, all_f_step hi.2 hc2⟩, by omega, ⟨rfl, rfl, trivial⟩, (by rfl), (by rfl)⟩
  have hc1 := hc; have hnl : ¬ i < h.log.length := (by simpa using hc1)
  refine AW.exit ?_; (simp only [thenE, inBlk, Nat.reduceEqDiff, ↓reduceIte])
  clear hK K
  (refine hK _ ?_; clear hK K; (skip))
  (refine AW.seq_k ?_; intro K hK)
  refine AW.region ?_
  (refine awP (op_fa_ptr rfl rfl rfl fl26_6 (by exact sz24) (by decide) rfl) ?_)
  (refine awR (op_load_ptr1 rfl rfl rfl rfl ag24 rfl rfl) ?_)
  refine awP (op_len_ro (n := h.log.length) rfl rfl Try.underlying24 (.inr (.inl ⟨_, rfl, by simp⟩))) ?_
  refine awP (op_leq rfl rfl rfl) ?_
  refine awP (op_assign rfl rfl) ?_
  refine AWL.nil ?_
  (refine hK _ ?_; clear hK K; (simp only [nA]))
  skip
  refine AW.ret ?_; rw [show logR h = decide ((h.log.length : Int) ≤ 60) by unfold logR; rw [all_range_yes hnl (fun k hk => by rw [hi.2 k hk]; rfl), Bool.true_and]]; exact RQ.of0 rfl (.tmp (bl rfl) rfl rfl .nil)
theorem C53 {h : Hand} (hs : h.Sm) (hn : 0 ≤ h.next ∧ h.next ≤ 1048576) : Fn Try.prog 53 [] [.agg h.av] [.v (.bool (logB h))] [] := by
  rw [← logR_eq]; exact C53r hs hn
end Go.Proofs.Ytdnofpggdddimaa
namespace Go.Proofs.Ytdnofpggdddimaa
open Go.RowKit
set_option linter.unusedSimpArgs false
set_option linter.unusedVariables false
set_option maxRecDepth 100000
def valH (h : Hand) : Int := if (((numB h && barB h) && grsB h.grants) && empB h.conts) && logB h then 0 else 1
def numR (h : Hand) : Bool := ((((decide (h.number < 1) || decide (h.number > 6)) || decide (h.next < 1)) || decide (h.next > 1048576)) || decide (h.last < 0)) || decide (h.last > 1048576)
theorem numR_eq (h : Hand) : numR h = !numB h := by
  unfold numR numB inB
  rw [show decide (h.number < 1) = !decide (h.number ≥ 1) from by rw [← decide_not]; exact decide_eq_decide.2 (by omega), show decide (h.number > 6) = !decide (h.number ≤ 6) from by rw [← decide_not]; exact decide_eq_decide.2 (by omega),
    show decide (h.next < 1) = !decide (h.next ≥ 1) from by rw [← decide_not]; exact decide_eq_decide.2 (by omega), show decide (h.next > 1048576) = !decide (h.next ≤ 1048576) from by rw [← decide_not]; exact decide_eq_decide.2 (by omega),
    show decide (h.last < 0) = !decide (h.last ≥ 0) from by rw [← decide_not]; exact decide_eq_decide.2 (by omega), show decide (h.last > 1048576) = !decide (h.last ≤ 1048576) from by rw [← decide_not]; exact decide_eq_decide.2 (by omega)]
  simp [Bool.or_assoc]
theorem num_next {h : Hand} (hn : numB h = true) : 1 ≤ h.next ∧ h.next ≤ 1048576 := by
  unfold numB inB at hn
  simp at hn
  omega
theorem val_1 {h : Hand} (hn : numB h = false) : valH h = 1 := by unfold valH; rw [hn]; rfl
theorem val_2 {h : Hand} (hn : barB h = false) : valH h = 1 := by unfold valH; rw [hn]; simp
theorem val_3 {h : Hand} (hn : grsB h.grants = false) : valH h = 1 := by unfold valH; rw [hn]; simp
theorem val_4 {h : Hand} (hn : empB h.conts = false) : valH h = 1 := by unfold valH; rw [hn]; simp
theorem val_5 {h : Hand} (hn : logB h = false) : valH h = 1 := by unfold valH; rw [hn]; simp
theorem val_0 {h : Hand} (h1 : numB h = true) (h2 : barB h = true) (h3 : grsB h.grants = true) (h4 : empB h.conts = true) (h5 : logB h = true) : valH h = 0 := by unfold valH; rw [h1, h2, h3, h4, h5]; rfl
def lensR (h : Hand) : Bool := (decide ((h.grants.length : Int) > 0) || decide ((h.conts.length : Int) > 0)) || decide ((h.log.length : Int) > 0)
theorem val_on {h : Hand} (hn : numB h = true) (ho : h.offline = false) : valH h = if lensR h then 1 else 0 := by
  by_cases hl : lensR h = true
  · rw [if_pos hl]
    refine val_2 ?_
    unfold barB
    rw [ho, Bool.false_or, decide_eq_false]
    unfold lensR at hl
    simp at hl
    rcases hl with (hl | hl) | hl <;> omega
  rw [if_neg hl]
  unfold lensR at hl
  simp at hl
  obtain ⟨⟨h1, h2⟩, h3⟩ := hl
  refine val_0 hn ?_ ?_ ?_ ?_
  · unfold barB; rw [h1, h2, h3]; simp
  · rw [h1]; rfl
  · rw [h2]; rfl
  unfold logB lgLast; rw [h3]; rfl
def badR (h : Hand) : Bool := (((decide ((h.grants.length : Int) > 60) || decide ((h.log.length : Int) > 60)) || !grsB h.grants) || !decide (chkL h.conts = 0)) || !logB h
theorem val_bad {h : Hand} (hb : badR h = true) : valH h = 1 := by
  unfold badR at hb
  simp only [Bool.or_eq_true, Bool.not_eq_true', decide_eq_true_eq] at hb
  rcases hb with (((hb | hb) | hb) | hb) | hb
  · exact val_3 (by unfold grsB; rw [decide_eq_false (by omega)]; rfl)
  · exact val_5 (by unfold logB; rw [decide_eq_false (by omega)]; rfl)
  · exact val_3 hb
  · exact val_4 (by unfold empB; rw [hb, Bool.and_false])
  exact val_5 hb
theorem val_good {h : Hand} (hn : numB h = true) (ho : h.offline = true) (hb : badR h = false) : valH h = if h.conts.all (fun c => decide (c.pieces.length = 0)) then 0 else 1 := by
  unfold badR at hb
  simp only [Bool.or_eq_false_iff, Bool.not_eq_false'] at hb
  obtain ⟨⟨⟨⟨b1, b2⟩, b3⟩, b4⟩, b5⟩ := hb
  have e : empB h.conts = h.conts.all (fun c => decide (c.pieces.length = 0)) := by unfold empB; rw [b4, Bool.and_true]
  rw [← e]
  unfold valH barB
  rw [hn, ho, b3, b5]
  simp
theorem all0_no {l : List Container} {i : Nat} (h : i < l.length) (hb : ((l.getD i default).pieces.length : Int) > 0) : l.all (fun c => decide (c.pieces.length = 0)) = false := by
  refine List.all_eq_false.2 ⟨l[i], List.getElem_mem h, ?_⟩
  rw [List.getD_eq_getElem?_getD, List.getElem?_eq_getElem h] at hb
  simp only [Option.getD_some] at hb
  simp only [decide_eq_true_eq]; omega
theorem all0_yes {l : List Container} {i : Nat} (h : ¬ i < l.length) (hb : ∀ k, k < i → (l.getD k default).pieces.length = 0) : l.all (fun c => decide (c.pieces.length = 0)) = true := by
  refine List.all_eq_true.2 fun c hc => ?_
  obtain ⟨k, hk, rfl⟩ := List.getElem_of_mem hc
  have := hb k (by omega)
  rw [List.getD_eq_getElem?_getD, List.getElem?_eq_getElem hk] at this
  simpa using this
theorem C19 {h : Hand} (hs : h.Sm) : Fn Try.prog 19 [] [.agg h.av] [.v (.int .i64 (valH h))] [] := by
  have h1 := hs.g; have h2 := hs.c; have h3 := hs.l; have hp : ∀ c ∈ h.conts, c.pieces.length ≤ 1000000000 := fun c hc => Nat.le_trans (hs.p c hc) (by omega)
  refine Spec.body Try.func19 rfl Try.ntmps19 (by simp) rfl ?_; intro S0 own0 v0 w0
  (refine AW.seq_k ?_; intro K hK)
  refine AW.region ?_
  refine awJ (op_box rfl rfl rfl sz26 rfl) ?_; (simp only [nA, Nat.reduceBEq, Nat.reduceEqDiff, ↓reduceIte])
  refine awP (op_assign rfl rfl) ?_
  refine AWL.nil ?_
  (refine hK _ ?_; clear hK K; (simp only [nA, Nat.reduceBEq, Nat.reduceEqDiff, ↓reduceIte, Nat.reduceAdd, Nat.reduceSub]))
  (refine AW.seq_k ?_; intro K hK)
  (refine AW.seq_k ?_; intro K hK)
  refine AW.region (AWL.quiet ?_)
  (refine aqP (op_fa_ptr rfl rfl rfl fl26_0 (by exact sz3) (by decide) rfl) ?_)
  (refine aqR (op_load_ptr1 rfl rfl rfl rfl ag3 rfl rfl) ?_)
  refine aqP (op_lss rfl rfl rfl) ?_
  refine aqP (op_move rfl rfl) ?_
  refine' aqOr' [_, _, _] [8,9,10] rfl rfl rfl rfl rfl rfl rfl rfl rfl rfl rfl rfl (fun hb => ?_) ?_; rotate_left
  ·
   (try simp only [hcS] at hb)
   (refine aqP (op_fa_ptr rfl rfl rfl fl26_0 (by exact sz3) (by decide) rfl) ?_)
   (refine aqR (op_load_ptr1 rfl rfl rfl rfl ag3 rfl rfl) ?_)
   refine aqP (op_gtr rfl rfl rfl) ?_
   (refine aqSeg rfl rfl rfl ?_; repeat (first | exact fun _ _ => rfl | refine upd_out rfl ?_))
  simp only [nA]
  refine aqP (op_move rfl rfl) ?_
  refine' aqOr' [_, _, _] [13,14,15] rfl rfl rfl rfl rfl rfl rfl rfl rfl rfl rfl rfl (fun hb => ?_) ?_; rotate_left
  ·
   (try simp only [hcS] at hb)
   (refine aqP (op_fa_ptr rfl rfl rfl fl26_1 (by exact sz3) (by decide) rfl) ?_)
   (refine aqR (op_load_ptr1 rfl rfl rfl rfl ag3 rfl rfl) ?_)
   refine aqP (op_lss rfl rfl rfl) ?_
   (refine aqSeg rfl rfl rfl ?_; repeat (first | exact fun _ _ => rfl | refine upd_out rfl ?_))
  simp only [nA]
  refine aqP (op_move rfl rfl) ?_
  refine' aqOr' [_, _, _] [18,19,20] rfl rfl rfl rfl rfl rfl rfl rfl rfl rfl rfl rfl (fun hb => ?_) ?_; rotate_left
  ·
   (try simp only [hcS] at hb)
   (refine aqP (op_fa_ptr rfl rfl rfl fl26_1 (by exact sz3) (by decide) rfl) ?_)
   (refine aqR (op_load_ptr1 rfl rfl rfl rfl ag3 rfl rfl) ?_)
   refine aqP (op_gtr rfl rfl rfl) ?_
   (refine aqSeg rfl rfl rfl ?_; repeat (first | exact fun _ _ => rfl | refine upd_out rfl ?_))
  simp only [nA]
  refine aqP (op_move rfl rfl) ?_
  refine' aqOr' [_, _, _] [23,24,25] rfl rfl rfl rfl rfl rfl rfl rfl rfl rfl rfl rfl (fun hb => ?_) ?_; rotate_left
  ·
   (try simp only [hcS] at hb)
   (refine aqP (op_fa_ptr rfl rfl rfl fl26_2 (by exact sz3) (by decide) rfl) ?_)
   (refine aqR (op_load_ptr1 rfl rfl rfl rfl ag3 rfl rfl) ?_)
   refine aqP (op_lss rfl rfl rfl) ?_
   (refine aqSeg rfl rfl rfl ?_; repeat (first | exact fun _ _ => rfl | refine upd_out rfl ?_))
  simp only [nA]
  refine aqP (op_move rfl rfl) ?_
  refine' aqOr' [_, _, _] [28,29,30] rfl rfl rfl rfl rfl rfl rfl rfl rfl rfl rfl rfl (fun hb => ?_) ?_; rotate_left
  ·
   (try simp only [hcS] at hb)
   (refine aqP (op_fa_ptr rfl rfl rfl fl26_2 (by exact sz3) (by decide) rfl) ?_)
   (refine aqR (op_load_ptr1 rfl rfl rfl rfl ag3 rfl rfl) ?_)
   refine aqP (op_gtr rfl rfl rfl) ?_
   (refine aqSeg rfl rfl rfl ?_; repeat (first | exact fun _ _ => rfl | refine upd_out rfl ?_))
  simp only [nA]
  refine AQ.nil ?_
  (refine hK _ ?_; clear hK K; (skip))
  refine AW.cond rfl rfl rfl (fun hc => ?_) (fun hc => ?_)
  ·
   have hc1 := hc; have hn : numB h = false := (by have e := numR_eq h; rw [show numR h = true from hc1] at e; simpa using e)
   (refine AW.seq_k ?_; intro K hK)
   refine AW.region ?_
   refine awP (op_assign rfl rfl) ?_
   refine AWL.nil ?_
   (refine hK _ ?_; clear hK K; (simp only [nA, Nat.reduceBEq, Nat.reduceEqDiff, ↓reduceIte, Nat.reduceAdd, Nat.reduceSub]))
   skip
   refine AW.ret ?_; (simp only [thenE, inBlk, Nat.reduceEqDiff, ↓reduceIte]); rw [val_1 hn]; exact RQ.of0 rfl (.tmp (bl rfl) rfl rfl .nil)
  have hc1 := hc; have hn : numB h = true := (by have e := numR_eq h; rw [show numR h = false from hc1] at e; simpa using e); have hnx := num_next hn
  refine AW.skip ?_
  (refine hK _ ?_; clear hK K; (skip))
  (refine AW.seq_k ?_; intro K hK)
  (refine AW.seq_k ?_; intro K hK)
  refine AW.region ?_
  (refine awP (op_fa_ptr rfl rfl rfl fl26_3 (by exact sz4) (by decide) rfl) ?_)
  (refine awR (op_load_ptr1 rfl rfl rfl rfl ag4 rfl rfl) ?_)
  refine awP (op_not rfl rfl rfl) ?_
  refine AWL.nil ?_
  (refine hK _ ?_; clear hK K; (simp only [nA, Nat.reduceBEq, Nat.reduceEqDiff, ↓reduceIte, Nat.reduceAdd, Nat.reduceSub]))
  refine AW.cond rfl rfl rfl (fun hc => ?_) (fun hc => ?_)
  ·
   have hc2 := hc; have ho : h.offline = false := (by simpa using hc2)
   (refine AW.seq_k ?_; intro K hK)
   (refine AW.seq_k ?_; intro K hK)
   refine AW.region (AWL.quiet ?_)
   (refine aqP (op_fa_ptr rfl rfl rfl fl26_4 (by exact sz22) (by decide) rfl) ?_)
   (refine aqR (op_load_ptr1 rfl rfl rfl rfl ag22 rfl rfl) ?_)
   refine aqP (op_len_ro (n := h.grants.length) rfl rfl Try.underlying22 (.inr (.inl ⟨_, rfl, by simp⟩))) ?_
   refine aqP (op_gtr rfl rfl rfl) ?_
   refine aqP (op_move rfl rfl) ?_
   refine' aqOr' [_, _, _, _] [40,41,42,43] rfl rfl rfl rfl rfl rfl rfl rfl rfl rfl rfl rfl (fun hb => ?_) ?_; rotate_left
   ·
    (try simp only [hcS] at hb)
    (refine aqP (op_fa_ptr rfl rfl rfl fl26_5 (by exact sz23) (by decide) rfl) ?_)
    (refine aqR (op_load_ptr1 rfl rfl rfl rfl ag23 rfl rfl) ?_)
    refine aqP (op_len_ro (n := h.conts.length) rfl rfl Try.underlying23 (.inr (.inl ⟨_, rfl, by simp⟩))) ?_
    refine aqP (op_gtr rfl rfl rfl) ?_
    (refine aqSeg rfl rfl rfl ?_; repeat (first | exact fun _ _ => rfl | refine upd_out rfl ?_))
   simp only [nA]
   refine aqP (op_move rfl rfl) ?_
   refine' aqOr' [_, _, _, _] [46,47,48,49] rfl rfl rfl rfl rfl rfl rfl rfl rfl rfl rfl rfl (fun hb => ?_) ?_; rotate_left
   ·
    (try simp only [hcS] at hb)
    (refine aqP (op_fa_ptr rfl rfl rfl fl26_6 (by exact sz24) (by decide) rfl) ?_)
    (refine aqR (op_load_ptr1 rfl rfl rfl rfl ag24 rfl rfl) ?_)
    refine aqP (op_len_ro (n := h.log.length) rfl rfl Try.underlying24 (.inr (.inl ⟨_, rfl, by simp⟩))) ?_
    refine aqP (op_gtr rfl rfl rfl) ?_
    (refine aqSeg rfl rfl rfl ?_; repeat (first | exact fun _ _ => rfl | refine upd_out rfl ?_))
   simp only [nA]
   refine AQ.nil ?_
   (refine hK _ ?_; clear hK K; (skip))
   refine AW.cond rfl rfl rfl (fun hc => ?_) (fun hc => ?_)
   ·
    have hc3 := hc
    (refine AW.seq_k ?_; intro K hK)
    refine AW.region ?_
    refine awP (op_assign rfl rfl) ?_
    refine AWL.nil ?_
    (refine hK _ ?_; clear hK K; (simp only [nA, Nat.reduceBEq, Nat.reduceEqDiff, ↓reduceIte, Nat.reduceAdd, Nat.reduceSub]))
    skip
    refine AW.ret ?_; (simp only [thenE, inBlk, Nat.reduceEqDiff, ↓reduceIte]); rw [val_on hn ho, if_pos (show lensR h = true from hc3)]; exact RQ.of0 rfl (.tmp (bl rfl) rfl rfl .nil)
   have hc3 := hc
   refine AW.skip ?_
   (refine hK _ ?_; clear hK K; (skip))
   (refine AW.seq_k ?_; intro K hK)
   refine AW.region ?_
   refine awP (op_assign rfl rfl) ?_
   refine AWL.nil ?_
   (refine hK _ ?_; clear hK K; (simp only [nA, Nat.reduceBEq, Nat.reduceEqDiff, ↓reduceIte, Nat.reduceAdd, Nat.reduceSub]))
   skip
   refine AW.ret ?_; (simp only [thenE, inBlk, Nat.reduceEqDiff, ↓reduceIte]); rw [val_on hn ho, if_neg (by rw [show lensR h = false from hc3]; decide)]; exact RQ.of0 rfl (.tmp (bl rfl) rfl rfl .nil)
  have hc2 := hc; have ho : h.offline = true := (by simpa using hc2)
  refine AW.skip ?_
  (refine hK _ ?_; clear hK K; (skip))
  (refine AW.seq_k ?_; intro K hK)
  (refine AW.seq_k ?_; intro K hK)
  refine AW.region (AWL.quiet ?_)
  (refine aqP (op_fa_ptr rfl rfl rfl fl26_4 (by exact sz22) (by decide) rfl) ?_)
  (refine aqR (op_load_ptr1 rfl rfl rfl rfl ag22 rfl rfl) ?_)
  refine aqP (op_len_ro (n := h.grants.length) rfl rfl Try.underlying22 (.inr (.inl ⟨_, rfl, by simp⟩))) ?_
  refine aqP (op_gtr rfl rfl rfl) ?_
  refine aqP (op_move rfl rfl) ?_
  refine' aqOr' [_, _, _, _] [56,57,58,59] rfl rfl rfl rfl rfl rfl rfl rfl rfl rfl rfl rfl (fun hb => ?_) ?_; rotate_left
  ·
   (try simp only [hcS] at hb)
   (refine aqP (op_fa_ptr rfl rfl rfl fl26_6 (by exact sz24) (by decide) rfl) ?_)
   (refine aqR (op_load_ptr1 rfl rfl rfl rfl ag24 rfl rfl) ?_)
   refine aqP (op_len_ro (n := h.log.length) rfl rfl Try.underlying24 (.inr (.inl ⟨_, rfl, by simp⟩))) ?_
   refine aqP (op_gtr rfl rfl rfl) ?_
   (refine aqSeg rfl rfl rfl ?_; repeat (first | exact fun _ _ => rfl | refine upd_out rfl ?_))
  simp only [nA]
  refine aqP (op_move rfl rfl) ?_
  refine' aqOr' [_, _, _, _] [62,63,64,65] rfl rfl rfl rfl rfl rfl rfl rfl rfl rfl rfl rfl (fun hb => ?_) ?_; rotate_left
  ·
   (try simp only [hcS] at hb)
   (refine aqP (op_fa_ptr rfl rfl rfl fl26_4 (by exact sz22) (by decide) rfl) ?_)
   (refine aqR (op_load_ptr1 rfl rfl rfl rfl ag22 rfl rfl) ?_)
   refine aqQ (op_callQ (b := true) rfl en51 (C51 (l := h.grants) hs.g) (RL.cons (by exact View.same rfl) (RL.nil)) rfl) ?_; (simp only [nA])
   refine aqP (op_not rfl rfl rfl) ?_
   (refine aqSeg rfl rfl rfl ?_; repeat (first | exact fun _ _ => rfl | refine upd_out rfl ?_))
  simp only [nA]
  refine aqP (op_move rfl rfl) ?_
  refine' aqOr' [_, _, _, _] [68,69,70,71] rfl rfl rfl rfl rfl rfl rfl rfl rfl rfl rfl rfl (fun hb => ?_) ?_; rotate_left
  ·
   (try simp only [hcS] at hb)
   (refine aqP (op_fa_ptr rfl rfl rfl fl26_5 (by exact sz23) (by decide) rfl) ?_)
   (refine aqR (op_load_ptr1 rfl rfl rfl rfl ag23 rfl rfl) ?_)
   refine aqQ (op_callQ (b := true) rfl en52 (C52 (xs := h.conts) (by omega) hp) (RL.cons (by exact View.same rfl) (RL.nil)) rfl) ?_; (simp only [nA])
   (refine aqP (op_neq rfl rfl rfl) ?_)
   (refine aqSeg rfl rfl rfl ?_; repeat (first | exact fun _ _ => rfl | refine upd_out rfl ?_))
  simp only [nA]
  refine aqP (op_move rfl rfl) ?_
  refine' aqOr' [_, _, _] [74,75,76] rfl rfl rfl rfl rfl rfl rfl rfl rfl rfl rfl rfl (fun hb => ?_) ?_; rotate_left
  ·
   (try simp only [hcS] at hb)
   (refine aqR (op_load_ptr rfl rfl rfl rfl ag26 sz26 (bl rfl) rfl) ?_)
   refine aqQ (op_callQ (b := true) rfl en53 (C53 (h := h) hs (by omega)) (RL.cons (by exact View.same rfl) (RL.nil)) rfl) ?_; (simp only [nA])
   refine aqP (op_not rfl rfl rfl) ?_
   (refine aqSeg rfl rfl rfl ?_; repeat (first | exact fun _ _ => rfl | refine upd_out rfl ?_))
  simp only [nA]
  refine AQ.nil ?_
  (refine hK _ ?_; clear hK K; (skip))
  refine AW.cond rfl rfl rfl (fun hc => ?_) (fun hc => ?_)
  ·
   have hc4 := hc
   (refine AW.seq_k ?_; intro K hK)
   refine AW.region ?_
   refine awP (op_assign rfl rfl) ?_
   refine AWL.nil ?_
   (refine hK _ ?_; clear hK K; (simp only [nA, Nat.reduceBEq, Nat.reduceEqDiff, ↓reduceIte, Nat.reduceAdd, Nat.reduceSub]))
   skip
   refine AW.ret ?_; (simp only [thenE, inBlk, Nat.reduceEqDiff, ↓reduceIte]); rw [val_bad hc4]; exact RQ.of0 rfl (.tmp (bl rfl) rfl rfl .nil)
  have hc4 := hc
  refine AW.skip ?_
  (refine hK _ ?_; clear hK K; (skip))
  (refine AW.seq_k ?_; intro K hK)
  (refine AW.seq_k ?_; intro K hK)
  refine AW.region ?_
  refine awP (op_assign rfl rfl) ?_
  refine AWL.nil ?_
  (refine hK _ ?_; clear hK K; (simp only [nA, Nat.reduceBEq, Nat.reduceEqDiff, ↓reduceIte, Nat.reduceAdd, Nat.reduceSub]))
  refine AW.block ?_
  refine AW.loopI (fun i => [(1, .ptr 0 1 0 0), (3, .v (.int .i64 (i : Nat)))]) (fun i => ⟨[(1, .own 26 [h.av])], 2⟩) (fun i => i ≤ h.conts.length ∧ ∀ k, k < i → (h.conts.getD k default).pieces.length = 0) (fun i => h.conts.length - i) 0 (by simp) ⟨rfl, rfl, trivial⟩ rfl ?_; intro i ρ hi; simp only [updL]
  (refine AW.seq_k ?_; intro K hK)
  (refine AW.seq_k ?_; intro K hK)
  refine AW.region ?_
  refine awP (op_move rfl rfl) ?_
  (refine awP (op_fa_ptr rfl rfl rfl fl26_5 (by exact sz23) (by decide) rfl) ?_)
  (refine awR (op_load_ptr1 rfl rfl rfl rfl ag23 rfl rfl) ?_)
  refine awP (op_len_ro (n := h.conts.length) rfl rfl Try.underlying23 (.inr (.inl ⟨_, rfl, by simp⟩))) ?_
  refine awP (op_lss rfl rfl rfl) ?_
  refine AWL.nil ?_
  (refine hK _ ?_; clear hK K; (simp only [nA, ↓reduceIte]))
  refine AW.cond rfl rfl rfl (fun hc => ?_) (fun hc => ?_)
  ·
   have hc5 := hc; have hlt : i < h.conts.length := (by simpa using hc5)
   refine AW.skip ?_
   (refine hK _ ?_; clear hK K; (skip))
   (refine AW.seq_k ?_; intro K hK)
   refine AW.block ?_
   (refine AW.seq_k ?_; intro K hK)
   refine AW.region ?_
   (refine awP (op_fa_ptr rfl rfl rfl fl26_5 (by exact sz23) (by decide) rfl) ?_)
   (refine awR (op_load_ptr1 rfl rfl rfl rfl ag23 rfl rfl) ?_)
   refine awP (op_move rfl rfl) ?_
   refine awP (op_ia_ro i rfl (.inl rfl) rfl Try.underlying23 rfl (get_mapD (by omega)) (by exact sz77) (bl rfl)) ?_
   (refine awP (op_fa_rop rfl rfl fl77_7 (by exact sz53) (by decide) (bl rfl) rfl) ?_)
   (refine awR (op_load_rop1 rfl rfl ag53) ?_)
   refine awP (op_len_ro (n := (h.conts.getD i default).pieces.length) rfl rfl Try.underlying53 (.inr (.inl ⟨_, rfl, by simp⟩))) ?_
   refine awP (op_gtr rfl rfl rfl) ?_
   refine AWL.nil ?_
   (refine hK _ ?_; clear hK K; (simp only [nA, ↓reduceIte]))
   refine AW.cond rfl rfl rfl (fun hc => ?_) (fun hc => ?_)
   ·
    have hc6 := hc
    (refine AW.seq_k ?_; intro K hK)
    refine AW.region ?_
    refine awP (op_assign rfl rfl) ?_
    refine AWL.nil ?_
    (refine hK _ ?_; clear hK K; (simp only [nA, Nat.reduceBEq, Nat.reduceEqDiff, ↓reduceIte, Nat.reduceAdd, Nat.reduceSub]))
    skip
    refine AW.ret ?_; (simp only [thenE, inBlk, Nat.reduceEqDiff, ↓reduceIte]); rw [val_good hn ho hc4, if_neg (by rw [all0_no hlt (by simpa using hc6)]; decide)]; exact RQ.of0 rfl (.tmp (bl rfl) rfl rfl .nil)
   have hc6 := hc
   refine AW.skip ?_
   simp only [thenE, inBlk, Nat.reduceEqDiff, ↓reduceIte]
   (refine hK _ ?_; clear hK K; (skip))
   refine AW.region ?_
   refine awP (op_move rfl rfl) ?_
   (refine awP (op_addi rfl rfl rfl (by omega)) ?_)
   refine awP (op_assign rfl rfl) ?_
   skip
   refine AWL.nil ?_
   refine ⟨i + 1, ⟨by omega, fun k hk => ?_⟩, by omega, ⟨rfl, rfl, trivial⟩, (by rfl), (by rfl)⟩; (rcases Nat.lt_or_ge k i with h' | h'; exact hi.2 k h'; (obtain rfl : k = i := by omega); (simp at hc6; simpa using hc6))
  have hc5 := hc; have hnl : ¬ i < h.conts.length := (by simpa using hc5)
  refine AW.exit ?_; (simp only [thenE, inBlk, Nat.reduceEqDiff, ↓reduceIte])
  clear hK K
  (refine hK _ ?_; clear hK K; (skip))
  (refine AW.seq_k ?_; intro K hK)
  refine AW.region ?_
  refine awP (op_assign rfl rfl) ?_
  refine AWL.nil ?_
  (refine hK _ ?_; clear hK K; (simp only [nA, Nat.reduceBEq, Nat.reduceEqDiff, ↓reduceIte, Nat.reduceAdd, Nat.reduceSub]))
  skip
  refine AW.ret ?_; rw [val_good hn ho hc4, if_pos (all0_yes hnl hi.2)]; exact RQ.of0 rfl (.tmp (bl rfl) rfl rfl .nil)
end Go.Proofs.Ytdnofpggdddimaa
namespace Go.Proofs.Ytdnofpggdddimaa
open Go.RowKit
set_option linter.unusedSimpArgs false
set_option linter.unusedVariables false
set_option maxRecDepth 100000
theorem ze49 : zeroIs Try.prog 49 .nilFunc 1 8 := ⟨by kernel_rfl, rfl, by simp [Value.cells, Value.oneCell']⟩
theorem sz49 : sizeIs Try.prog 49 1 := by unfold sizeIs; kernel_rfl
theorem ag49 : aggB Try.prog 49 = some false := by kernel_rfl
def chkH (h : Hand) : Nat → Bool
  | 0 => numB h
  | 1 => barB h
  | 2 => grsB h.grants
  | 3 => empB h.conts
  | _ => logB h
abbrev bmR (h : Hand) (k : Nat) : List AV := [.bm (46 + k) h.av]
theorem C46x {h : Hand} (hs : h.Sm) {i : Nat} (hi : i < 5) (hp : ∀ k, k < i → chkH h k = true) : Fn Try.prog (46 + i) [] [.agg h.av] [.v (.bool (chkH h i))] [] := by
  match i, hi with
  | 0, _ => exact C46
  | 1, _ => exact C47 hs
  | 2, _ => exact C48 hs
  | 3, _ => exact C49 hs
  | 4, _ =>
    have := num_next (h := h) (hp 0 (by decide))
    exact C50 hs (by omega)
theorem en46x {i : Nat} (hi : i < 5) : Enters Try.prog (46 + i) := by
  match i, hi with
  | 0, _ => exact en46
  | 1, _ => exact en47
  | 2, _ => exact en48
  | 3, _ => exact en49
  | 4, _ => exact en50
theorem val_of_chk {h : Hand} (hp : ∀ k, k < 5 → chkH h k = true) : valH h = 0 := val_0 (hp 0 (by decide)) (hp 1 (by decide)) (hp 2 (by decide)) (hp 3 (by decide)) (hp 4 (by decide))
theorem val_of_no {h : Hand} {i : Nat} (hi : i < 5) (hc : chkH h i = false) : valH h = 1 := by
  match i, hi with
  | 0, _ => exact val_1 hc
  | 1, _ => exact val_2 hc
  | 2, _ => exact val_3 hc
  | 3, _ => exact val_4 hc
  | 4, _ => exact val_5 hc
theorem bm_flat (h : Hand) : ∀ r ∈ (List.range 5).map (bmR h), ∀ c ∈ r, flatA c = true := fun r hr c hc => by
  obtain ⟨k, _, rfl⟩ := List.mem_map.1 hr
  rw [List.mem_singleton.1 hc]; rfl
theorem bm_get (h : Hand) {i : Nat} (hi : i < 5) : ((List.range 5).map (bmR h))[i]? = some (bmR h i) := by
  rw [List.getElem?_map, List.getElem?_range hi]; rfl
theorem C18 {h : Hand} (hs : h.Sm) : Fn Try.prog 18 [] [.agg h.av] [.v (.int .i64 (valH h))] [] := by
  refine Spec.body Try.func18 rfl Try.ntmps18 (by simp) rfl ?_; intro S0 own0 v0 w0
  (refine AW.seq_k ?_; intro K hK)
  refine AW.region ?_
  refine awJ (op_box rfl rfl rfl sz26 rfl) ?_; (simp only [nA, Nat.reduceBEq, Nat.reduceEqDiff, ↓reduceIte])
  refine awP (op_assign rfl rfl) ?_; (simp only [nA, Nat.reduceBEq, Nat.reduceEqDiff, ↓reduceIte, Nat.reduceAdd, Nat.reduceSub])
  refine AWL.nil ?_
  (refine hK _ ?_; clear hK K; (simp only [nA, Nat.reduceBEq, Nat.reduceEqDiff, ↓reduceIte, Nat.reduceAdd, Nat.reduceSub]))
  (refine AW.seq_k ?_; intro K hK)
  refine AW.region ?_
  (refine awR (op_load_ptr rfl rfl rfl rfl ag26 sz26 (bl rfl) rfl) ?_); (simp only [nA, Nat.reduceBEq, Nat.reduceEqDiff, ↓reduceIte, Nat.reduceAdd, Nat.reduceSub])
  refine awJ (op_alloc rfl ze87 rfl) ?_; (simp only [nA, Nat.reduceBEq, Nat.reduceEqDiff, ↓reduceIte])
  refine awJ (op_store rfl rfl rfl rfl rfl rfl sz87 rfl (bl rfl) rfl) ?_; (simp only [nA, Nat.reduceBEq, Nat.reduceEqDiff, ↓reduceIte])
  refine AWL.nil ?_
  (refine hK _ ?_; clear hK K; (skip))
  (refine AW.seq_k ?_; intro K hK)
  (refine AW.seq_k ?_; intro K hK)
  refine AW.region ?_
  (refine awR (op_load_ptr rfl rfl rfl rfl ag87 sz87 (bl rfl) rfl) ?_); (simp only [nA, Nat.reduceBEq, Nat.reduceEqDiff, ↓reduceIte, Nat.reduceAdd, Nat.reduceSub])
  refine awP (op_bind rfl rfl rfl) ?_; (simp only [nA, Nat.reduceBEq, Nat.reduceEqDiff, ↓reduceIte, Nat.reduceAdd, Nat.reduceSub])
  (refine awR (op_load_ptr rfl rfl rfl rfl ag87 sz87 (bl rfl) rfl) ?_); (simp only [nA, Nat.reduceBEq, Nat.reduceEqDiff, ↓reduceIte, Nat.reduceAdd, Nat.reduceSub])
  refine awP (op_bind rfl rfl rfl) ?_; (simp only [nA, Nat.reduceBEq, Nat.reduceEqDiff, ↓reduceIte, Nat.reduceAdd, Nat.reduceSub])
  (refine awR (op_load_ptr rfl rfl rfl rfl ag87 sz87 (bl rfl) rfl) ?_); (simp only [nA, Nat.reduceBEq, Nat.reduceEqDiff, ↓reduceIte, Nat.reduceAdd, Nat.reduceSub])
  refine awP (op_bind rfl rfl rfl) ?_; (simp only [nA, Nat.reduceBEq, Nat.reduceEqDiff, ↓reduceIte, Nat.reduceAdd, Nat.reduceSub])
  (refine awR (op_load_ptr rfl rfl rfl rfl ag87 sz87 (bl rfl) rfl) ?_); (simp only [nA, Nat.reduceBEq, Nat.reduceEqDiff, ↓reduceIte, Nat.reduceAdd, Nat.reduceSub])
  refine awP (op_bind rfl rfl rfl) ?_; (simp only [nA, Nat.reduceBEq, Nat.reduceEqDiff, ↓reduceIte, Nat.reduceAdd, Nat.reduceSub])
  (refine awR (op_load_ptr rfl rfl rfl rfl ag87 sz87 (bl rfl) rfl) ?_); (simp only [nA, Nat.reduceBEq, Nat.reduceEqDiff, ↓reduceIte, Nat.reduceAdd, Nat.reduceSub])
  refine awP (op_bind rfl rfl rfl) ?_; (simp only [nA, Nat.reduceBEq, Nat.reduceEqDiff, ↓reduceIte, Nat.reduceAdd, Nat.reduceSub])
  refine awJ (OpJ.frz (op_buildSlice rfl [(0, bmR h 0), (1, bmR h 1), (2, bmR h 2), (3, bmR h 3), (4, bmR h 4)] ((List.range 5).map (bmR h)) Try.underlying88 ze49 rfl (by simp) rfl (by simp) rfl (bl rfl) (by simp [maxLen])) (bm_flat h) rfl) ?_; (simp only [nA, Nat.reduceBEq, Nat.reduceEqDiff, ↓reduceIte, Nat.reduceAdd, Nat.reduceSub])
  refine awP (op_len_ro (n := 5) rfl rfl Try.underlying88 (.inr (.inl ⟨_, rfl, rfl⟩))) ?_; (simp only [nA, Nat.reduceBEq, Nat.reduceEqDiff, ↓reduceIte, Nat.reduceAdd, Nat.reduceSub])
  refine awP (op_move rfl rfl) ?_; (simp only [nA, Nat.reduceBEq, Nat.reduceEqDiff, ↓reduceIte, Nat.reduceAdd, Nat.reduceSub])
  refine AWL.nil ?_
  (refine hK _ ?_; clear hK K; (skip))
  refine AW.block ?_
  refine AW.loopI (fun i => [(17, .ro ((List.range 5).map (bmR h))), (18, .v (.int .i64 (5 : Nat))), (19, .v (.int .i64 (i : Nat)))]) (fun i => ⟨[(1, .own 26 [h.av]), (2, .own 87 [h.av])], 3⟩) (fun i => i ≤ 5 ∧ ∀ k, k < i → chkH h k = true) (fun i => 5 - i) 0 (by simp) ⟨rfl, rfl, rfl, trivial⟩ rfl ?_; intro i ρ hi; simp only [updL]
  (refine AW.seq_k ?_; intro K hK)
  refine AW.region ?_
  refine awP (op_lss rfl rfl rfl) ?_; (simp only [nA, Nat.reduceBEq, Nat.reduceEqDiff, ↓reduceIte, Nat.reduceAdd, Nat.reduceSub])
  refine AWL.nil ?_
  (refine hK _ ?_; clear hK K; (skip))
  (refine AW.seq_k ?_; intro K hK)
  refine AW.cond rfl rfl rfl (fun hc => ?_) (fun hc => ?_)
  ·
   (try simp only [hcS] at hc); have hc1 := hc; have hlt : i < 5 := (by simp at hc1; omega)
   refine AW.skip ?_
   (refine hK _ ?_; clear hK K; (skip))
   (refine AW.seq_k ?_; intro K hK)
   refine AW.block ?_
   (refine AW.seq_k ?_; intro K hK)
   refine AW.region ?_
   refine awP (op_ia_ro i rfl (.inl rfl) rfl Try.underlying88 rfl (bm_get h hlt) (by exact sz49) (bl rfl)) ?_; (simp only [nA, Nat.reduceBEq, Nat.reduceEqDiff, ↓reduceIte, Nat.reduceAdd, Nat.reduceSub])
   (refine awR (op_load_rop1 rfl rfl ag49) ?_); (simp only [nA, Nat.reduceBEq, Nat.reduceEqDiff, ↓reduceIte, Nat.reduceAdd, Nat.reduceSub])
   refine awP (op_assign rfl rfl) ?_; (simp only [nA])
   refine AWL.nil ?_
   (refine hK _ ?_; clear hK K; (skip))
   (refine AW.seq_k ?_; intro K hK)
   refine AW.region ?_
   refine awP (op_move rfl rfl) ?_; (simp only [nA])
   refine awJ (OpQ.j (op_bmQ rfl rfl (en46x hlt) (C46x hs hlt hi.2) rfl)) ?_; (simp only [nA, Nat.reduceBEq, Nat.reduceEqDiff, ↓reduceIte, Nat.reduceAdd, Nat.reduceSub])
   refine awP (op_not rfl rfl rfl) ?_; (simp only [nA, Nat.reduceBEq, Nat.reduceEqDiff, ↓reduceIte, Nat.reduceAdd, Nat.reduceSub])
   refine AWL.nil ?_
   (refine hK _ ?_; clear hK K; (skip))
   refine AW.cond rfl rfl rfl (fun hc => ?_) (fun hc => ?_)
   ·
    (try simp only [hcS] at hc); have hc2 := hc
    (refine AW.seq_k ?_; intro K hK)
    refine AW.region ?_
    refine awP (op_assign rfl rfl) ?_; (simp only [nA, Nat.reduceBEq, Nat.reduceEqDiff, ↓reduceIte, Nat.reduceAdd, Nat.reduceSub])
    refine AWL.nil ?_
    (refine hK _ ?_; clear hK K; (skip))
    skip
    refine AW.ret ?_; (simp only [thenE, inBlk, Nat.reduceEqDiff, ↓reduceIte]); rw [val_of_no hlt (by simpa using hc2)]; exact RQ.of0 rfl (.tmp (bl rfl) rfl rfl .nil)
   (try simp only [hcS] at hc); have hc2 := hc
   refine AW.skip ?_
   simp only [thenE, inBlk, Nat.reduceEqDiff, ↓reduceIte]
   (refine hK _ ?_; clear hK K; (skip))
   refine AW.region ?_
   (refine awP (op_addi rfl rfl rfl (by omega)) ?_); (simp only [nA, Nat.reduceBEq, Nat.reduceEqDiff, ↓reduceIte, Nat.reduceAdd, Nat.reduceSub])
   refine awP (op_move rfl rfl) ?_; (simp only [nA])
   skip
   refine AWL.nil ?_
   refine ⟨i + 1, ⟨by omega, all_b_step hi.2 (by simpa using hc2)⟩, by omega, ⟨rfl, rfl, rfl, trivial⟩, (by rfl), (by rfl)⟩
  (try simp only [hcS] at hc); have hc1 := hc; have hnl : ¬ i < 5 := (by simp at hc1; omega)
  refine AW.exit ?_; (simp only [thenE, inBlk, Nat.reduceEqDiff, ↓reduceIte])
  clear hK K
  (refine hK _ ?_; clear hK K; (skip))
  (refine AW.seq_k ?_; intro K hK)
  refine AW.region ?_
  refine awP (op_assign rfl rfl) ?_; (simp only [nA, Nat.reduceBEq, Nat.reduceEqDiff, ↓reduceIte, Nat.reduceAdd, Nat.reduceSub])
  refine AWL.nil ?_
  (refine hK _ ?_; clear hK K; (skip))
  skip
  refine AW.ret ?_; rw [val_of_chk fun k hk => hi.2 k (by omega)]; exact RQ.of0 rfl (.tmp (bl rfl) rfl rfl .nil)
end Go.Proofs.Ytdnofpggdddimaa
namespace Go.Proofs.Ytdnofpggdddimaa
open Go.RowKit
set_option linter.unusedSimpArgs false
set_option linter.unusedVariables false
set_option maxRecDepth 100000
end Go.Proofs.Ytdnofpggdddimaa
namespace Go.Proofs.Ytdnofpggdddimaa
open Go.RowKit
set_option linter.unusedSimpArgs false
set_option linter.unusedVariables false
set_option maxRecDepth 100000
section
variable {S0 : Nat → Prop} {own0 : List Nat} {v0 : List Value} {w0 : World} {o : Oper} {ev : Operand → AV} {T : Sl} {yt : TypeId} {y z : Operand}
end
def noL (l : List Piece) (p : Plate) : List Piece := l.filter fun x => decide (x.plate ≠ p)
end Go.Proofs.Ytdnofpggdddimaa
namespace Go.Proofs.Ytdnofpggdddimaa
open Go.RowKit
set_option linter.unusedSimpArgs false
set_option linter.unusedVariables false
set_option maxRecDepth 100000
theorem st75 : Try.prog.stoodInHeld 75 = false := by kernel_rfl
theorem fo75 : Try.prog.underlying 75 = some (.struct (Try.prog.fieldsOf 75)) := by
  unfold Program.fieldsOf; rw [Try.underlying75]
theorem ty75 : Try.prog.eqGuardType Try.prog.depth 75 = false := by kernel_rfl
theorem st33 : Try.prog.stoodInHeld 33 = false := by kernel_rfl
theorem fo33 : Try.prog.underlying 33 = some (.struct (Try.prog.fieldsOf 33)) := by
  unfold Program.fieldsOf; rw [Try.underlying33]
theorem ty33 : Try.prog.eqGuardType Try.prog.depth 33 = false := by kernel_rfl
def grEq (g h : Grant) : Bool := piEq g.piece h.piece && flEq g.flight h.flight
def opEq (g h : Op) : Bool := (g.time == h.time) && ((g.device == h.device) && ((g.seq == h.seq) && ((g.kind == h.kind) && ((g.cont == h.cont) && piEq g.piece h.piece))))
abbrev Grant.vs (g : Grant) : List Value := [.int .i64 g.piece.plate.lead, .int .i64 g.piece.plate.airline, .int .i64 g.piece.plate.serial, .int .i64 g.piece.weight, .int .i64 g.piece.category, .string g.flight.carrier, .int .i64 g.flight.number, .string g.flight.suffix, .int .i64 g.flight.day]
abbrev Op.vs (o : Op) : List Value := [.int .i64 o.time, .int .i64 o.device, .int .i64 o.seq, .int .i64 o.kind, .int .i64 o.cont, .int .i64 o.piece.plate.lead, .int .i64 o.piece.plate.airline, .int .i64 o.piece.plate.serial, .int .i64 o.piece.weight, .int .i64 o.piece.category]
theorem ite_ok {p : Prop} [Decidable p] {b : Bool} {w : World} : (if p then Result.ok (Value.bool b) w else Result.ok (Value.bool false) w) = Result.ok (Value.bool (decide p && b)) w := by
  by_cases h : p <;> simp [h]
theorem ite_no {p : Prop} [Decidable p] {b : Bool} {w : World} : (if p then Result.ok (Value.bool b) w else Result.ok (Value.bool true) w) = Result.ok (Value.bool (!decide p || b)) w := by
  by_cases h : p <;> simp [h]
theorem run_eq75 (p q : Grant) (w : World) : (binOp .eql 75 (.agg p.vs.toArray) (.agg q.vs.toArray)).run Try.prog w = .ok (.bool (grEq p q)) w := by
  obtain ⟨⟨⟨x, y, z⟩, b, c⟩, ⟨d, e, f, g⟩⟩ := p
  obtain ⟨⟨⟨x', y', z'⟩, b', c'⟩, ⟨d', e', f', g'⟩⟩ := q
  unfold binOp
  simp only [Op.equal]
  rw [Sem.run_bind, show Op.maxDepth = 9996 + 1 + 1 + 1 + 1 from rfl, run_equalIn_struct w _ 75 _ _ fo75 st75]
  unfold Program.fieldsOf; rw [Try.underlying75]
  simp only [Op.eqFields]
  go_simp
  simp only [ite_ok]
  unfold grEq piEq
  unfold flEq
  simp [Bool.and_assoc, Bool.beq_eq_decide_eq]
theorem run_tye75 (p q : Operand) (x y : Array Value) (w : World) : (eqGuard .eql 75 p q (.agg x) (.agg y)).run Try.prog w = .ok () w := by
  unfold eqGuard
  simp [ty75, run_program]
theorem run_neq75 (p q : Grant) (w : World) : (binOp .neq 75 (.agg p.vs.toArray) (.agg q.vs.toArray)).run Try.prog w = .ok (.bool (!grEq p q)) w := by
  obtain ⟨⟨⟨x, y, z⟩, b, c⟩, ⟨d, e, f, g⟩⟩ := p
  obtain ⟨⟨⟨x', y', z'⟩, b', c'⟩, ⟨d', e', f', g'⟩⟩ := q
  unfold binOp
  simp only [Op.equal]
  rw [Sem.run_bind, show Op.maxDepth = 9996 + 1 + 1 + 1 + 1 from rfl, run_equalIn_struct w _ 75 _ _ fo75 st75]
  unfold Program.fieldsOf; rw [Try.underlying75]
  simp only [Op.eqFields]
  go_simp
  simp only [ite_no]
  unfold grEq piEq
  unfold flEq
  simp [Bool.and_assoc, Bool.beq_eq_decide_eq]
theorem run_tyn75 (p q : Operand) (x y : Array Value) (w : World) : (eqGuard .neq 75 p q (.agg x) (.agg y)).run Try.prog w = .ok () w := by
  unfold eqGuard
  simp [ty75, run_program]
theorem run_neq33 (p q : Op) (w : World) : (binOp .neq 33 (.agg p.vs.toArray) (.agg q.vs.toArray)).run Try.prog w = .ok (.bool (!opEq p q)) w := by
  obtain ⟨d, e, f, g, k, ⟨⟨x, y, z⟩, b, c⟩⟩ := p
  obtain ⟨d', e', f', g', k', ⟨⟨x', y', z'⟩, b', c'⟩⟩ := q
  unfold binOp
  simp only [Op.equal]
  rw [Sem.run_bind, show Op.maxDepth = 9996 + 1 + 1 + 1 + 1 from rfl, run_equalIn_struct w _ 33 _ _ fo33 st33]
  unfold Program.fieldsOf; rw [Try.underlying33]
  simp only [Op.eqFields]
  go_simp
  simp only [ite_no]
  unfold opEq piEq
  simp [Bool.and_assoc, Bool.beq_eq_decide_eq]
theorem run_tyn33 (p q : Operand) (x y : Array Value) (w : World) : (eqGuard .neq 33 p q (.agg x) (.agg y)).run Try.prog w = .ok () w := by
  unfold eqGuard
  simp [ty33, run_program]
abbrev Piece.vs (p : Piece) : List Value := [.int .i64 p.plate.lead, .int .i64 p.plate.airline, .int .i64 p.plate.serial, .int .i64 p.weight, .int .i64 p.category]
theorem run_eq31 (p q : Piece) (w : World) : (binOp .eql 31 (.agg p.vs.toArray) (.agg q.vs.toArray)).run Try.prog w = .ok (.bool (piEq p q)) w := by
  obtain ⟨⟨x, y, z⟩, b, c⟩ := p
  obtain ⟨⟨x', y', z'⟩, b', c'⟩ := q
  unfold binOp
  simp only [Op.equal]
  rw [Sem.run_bind, show Op.maxDepth = 9997 + 1 + 1 + 1 from rfl, run_equalIn_struct w _ 31 _ _ fo31 st31]
  unfold Program.fieldsOf; rw [Try.underlying31]
  simp only [Op.eqFields]
  go_simp
  simp only [ite_ok]
  unfold piEq
  simp [Bool.and_assoc, Bool.beq_eq_decide_eq]
theorem run_tye31 (p q : Operand) (x y : Array Value) (w : World) : (eqGuard .eql 31 p q (.agg x) (.agg y)).run Try.prog w = .ok () w := by
  unfold eqGuard
  simp [ty31, run_program]
section
variable {S0 : Nat → Prop} {own0 : List Nat} {v0 : List Value} {w0 : World} {o : Oper} {ev : Operand → AV} {T : Sl} {yt : TypeId} {y z : Operand}
theorem op_eq75 {p q : Grant} (ho : o.op = .binOp .eql 75 y z yt) (hy : ev y = .agg p.av) (hz : ev z = .agg q.av) : OpP ⟨Try.prog, S0, own0, v0, w0⟩ o ev T (.v (.bool (grEq p q))) :=
  op_bin_agg (xs := p.vs) (ys := q.vs) ho hy hz (fun w => run_tye75 _ _ _ _ w) (fun w => run_eq75 p q w) rfl
theorem op_neq75 {p q : Grant} (ho : o.op = .binOp .neq 75 y z yt) (hy : ev y = .agg p.av) (hz : ev z = .agg q.av) : OpP ⟨Try.prog, S0, own0, v0, w0⟩ o ev T (.v (.bool (!grEq p q))) :=
  op_bin_agg (xs := p.vs) (ys := q.vs) ho hy hz (fun w => run_tyn75 _ _ _ _ w) (fun w => run_neq75 p q w) rfl
theorem op_neq33 {p q : Op} (ho : o.op = .binOp .neq 33 y z yt) (hy : ev y = .agg p.av) (hz : ev z = .agg q.av) : OpP ⟨Try.prog, S0, own0, v0, w0⟩ o ev T (.v (.bool (!opEq p q))) :=
  op_bin_agg (xs := p.vs) (ys := q.vs) ho hy hz (fun w => run_tyn33 _ _ _ _ w) (fun w => run_neq33 p q w) rfl
theorem op_eq31 {p q : Piece} (ho : o.op = .binOp .eql 31 y z yt) (hy : ev y = .agg p.av) (hz : ev z = .agg q.av) : OpP ⟨Try.prog, S0, own0, v0, w0⟩ o ev T (.v (.bool (piEq p q))) :=
  op_bin_agg (xs := p.vs) (ys := q.vs) ho hy hz (fun w => run_tye31 _ _ _ _ w) (fun w => run_eq31 p q w) rfl
end
end Go.Proofs.Ytdnofpggdddimaa
namespace Go.Proofs.Ytdnofpggdddimaa
open Go.RowKit
set_option linter.unusedSimpArgs false
set_option linter.unusedVariables false
set_option maxRecDepth 100000
def idxI {α : Type} (p : α → Bool) (l : List α) : Int := if l.findIdx p < l.length then (l.findIdx p : Int) else -1
theorem getD_of {α : Type} [Inhabited α] {l : List α} {i : Nat} (h : i < l.length) : l.getD i default = l[i] := by
  rw [List.getD_eq_getElem?_getD, List.getElem?_eq_getElem h]; rfl
theorem idx_yes {α : Type} [Inhabited α] {p : α → Bool} {l : List α} {i : Nat} (hi : i < l.length) (hn : ∀ k, k < i → p (l.getD k default) = false) (hp : p (l.getD i default) = true) : idxI p l = i := by
  have e : l.findIdx p = i := (List.findIdx_eq hi).2 ⟨by rw [← getD_of hi]; exact hp, fun j hj => by
    have := hn j hj
    rw [getD_of (by omega)] at this
    exact this⟩
  unfold idxI
  rw [e, if_pos hi]
theorem idx_no {α : Type} [Inhabited α] {p : α → Bool} {l : List α} {i : Nat} (hi : ¬ i < l.length) (hn : ∀ k, k < i → p (l.getD k default) = false) : idxI p l = -1 := by
  unfold idxI
  rw [if_neg]
  intro h
  have := List.findIdx_getElem (w := h)
  have h2 := hn (l.findIdx p) (by omega)
  rw [getD_of h] at h2
  rw [h2] at this
  cases this
theorem C89 {l : List Grant} {g : Grant} (h1 : l.length ≤ 1000) : Fn Try.prog 89 [] [.ro (l.map Grant.av), .agg g.av] [.v (.int .i64 (idxI (fun x => grEq g x) l))] [] := by
  refine Spec.body Try.func89 rfl Try.ntmps89 (by simp) rfl ?_; intro S0 own0 v0 w0
  (refine AW.seq_k ?_; intro K hK)
  refine AW.region ?_
  refine awJ (op_box rfl rfl rfl sz75 rfl) ?_; (simp only [nA, Nat.reduceBEq, Nat.reduceEqDiff, ↓reduceIte])
  refine awP (op_assign rfl rfl) ?_
  refine AWL.nil ?_
  (refine hK _ ?_; clear hK K; (simp only [nA, Nat.reduceBEq, Nat.reduceEqDiff, ↓reduceIte, Nat.reduceAdd, Nat.reduceSub]))
  (refine AW.seq_k ?_; intro K hK)
  (refine AW.seq_k ?_; intro K hK)
  refine AW.region ?_
  refine awP (op_move rfl rfl) ?_
  refine awP (op_len_ro (n := l.length) rfl rfl Try.underlying22 (.inr (.inl ⟨_, rfl, by simp⟩))) ?_
  refine awP (op_move rfl rfl) ?_
  refine AWL.nil ?_
  (refine hK _ ?_; clear hK K; (simp only [nA, ↓reduceIte]))
  refine AW.block ?_
  refine AW.loopI (fun i => [(0, .ro (l.map Grant.av)), (3, .ptr 0 1 0 0), (7, .v (.int .i64 l.length)), (8, .v (.int .i64 (i : Nat)))]) (fun i => ⟨[(1, .own 75 [g.av])], 2⟩) (fun i => i ≤ l.length ∧ ∀ k, k < i → grEq g (l.getD k default) = false) (fun i => l.length - i) 0 (by simp) ⟨rfl, rfl, rfl, rfl, trivial⟩ rfl ?_; intro i ρ hi; simp only [updL]
  (refine AW.seq_k ?_; intro K hK)
  refine AW.region ?_
  refine awP (op_lss rfl rfl rfl) ?_
  refine AWL.nil ?_
  (refine hK _ ?_; clear hK K; (simp only [nA, Nat.reduceBEq, Nat.reduceEqDiff, ↓reduceIte, Nat.reduceAdd, Nat.reduceSub]))
  (refine AW.seq_k ?_; intro K hK)
  refine AW.cond rfl rfl rfl (fun hc => ?_) (fun hc => ?_)
  ·
   have hc1 := hc; have hlt : i < l.length := (by simpa using hc1)
   refine AW.skip ?_
   (refine hK _ ?_; clear hK K; (skip))
   (refine AW.seq_k ?_; intro K hK)
   refine AW.block ?_
   (refine AW.seq_k ?_; intro K hK)
   refine AW.region ?_
   refine awP (op_move rfl rfl) ?_
   refine awP (op_assign rfl rfl) ?_
   refine AWL.nil ?_
   (refine hK _ ?_; clear hK K; (simp only [nA, ↓reduceIte]))
   (refine AW.seq_k ?_; intro K hK)
   refine AW.quiet mix (by kernel_rfl) ?_
   (refine aqR (op_load_ptr rfl rfl rfl rfl ag75 sz75 (bl rfl) rfl) ?_)
   refine aqP (op_move rfl rfl) ?_
   refine aqP (op_move rfl rfl) ?_
   refine aqP (op_ia_ro i rfl (.inl rfl) rfl Try.underlying22 rfl (get_mapD (by omega)) (by exact sz75) (bl rfl)) ?_
   (refine aqR (op_load_rop rfl rfl ag75 sz75 (bl rfl) (by decide) rfl) ?_)
   refine aqP (op_eq75 (p := g) (q := l.getD i default) rfl rfl rfl) ?_; (simp only [nA, ↓reduceIte])
   refine AQ.nil ?_
   (refine hK _ ?_; clear hK K; (skip))
   refine AW.cond rfl rfl rfl (fun hc => ?_) (fun hc => ?_)
   ·
    have hc2 := hc
    (refine AW.seq_k ?_; intro K hK)
    refine AW.region ?_
    refine awP (op_move rfl rfl) ?_
    refine awP (op_assign rfl rfl) ?_
    refine AWL.nil ?_
    (refine hK _ ?_; clear hK K; (simp only [nA, ↓reduceIte]))
    skip
    refine AW.ret ?_; (simp only [thenE, inBlk, Nat.reduceEqDiff, ↓reduceIte]); rw [idx_yes hlt hi.2 hc2]; exact RQ.of0 rfl (.tmp (bl rfl) rfl rfl .nil)
   have hc2 := hc
   refine AW.skip ?_
   simp only [thenE, inBlk, Nat.reduceEqDiff, ↓reduceIte]
   (refine hK _ ?_; clear hK K; (skip))
   refine AW.region ?_
   (refine awP (op_addi rfl rfl rfl (by omega)) ?_)
   refine awP (op_move rfl rfl) ?_
   skip
   refine AWL.nil ?_
   refine ⟨i + 1, ⟨by omega, all_f_step hi.2 hc2⟩, by omega, ⟨rfl, rfl, rfl, rfl, trivial⟩, (by rfl), (by rfl)⟩
  have hc1 := hc; have hnl : ¬ i < l.length := (by simpa using hc1)
  refine AW.exit ?_; (simp only [thenE, inBlk, Nat.reduceEqDiff, ↓reduceIte])
  clear hK K
  (refine hK _ ?_; clear hK K; (skip))
  (refine AW.seq_k ?_; intro K hK)
  refine AW.region ?_
  refine awP (op_assign rfl rfl) ?_
  refine AWL.nil ?_
  (refine hK _ ?_; clear hK K; (simp only [nA, Nat.reduceBEq, Nat.reduceEqDiff, ↓reduceIte, Nat.reduceAdd, Nat.reduceSub]))
  skip
  refine AW.ret ?_; rw [idx_no hnl hi.2]; exact RQ.of0 rfl (.tmp (bl rfl) rfl rfl .nil)
theorem C76 {l : List Grant} {g : Grant} (h1 : l.length ≤ 1000) : Fn Try.prog 76 [] [.ro (l.map Grant.av), .agg g.av] [.v (.bool (decide (idxI (fun x => grEq g x) l ≥ 0)))] [] := by
  refine Spec.body Try.func76 rfl Try.ntmps76 (by simp) rfl ?_; intro S0 own0 v0 w0
  (refine AW.seq_k ?_; intro K hK)
  refine AW.region ?_
  refine awJ (op_box rfl rfl rfl sz75 rfl) ?_; (simp only [nA, Nat.reduceBEq, Nat.reduceEqDiff, ↓reduceIte])
  refine awP (op_assign rfl rfl) ?_
  refine AWL.nil ?_
  (refine hK _ ?_; clear hK K; (simp only [nA, Nat.reduceBEq, Nat.reduceEqDiff, ↓reduceIte, Nat.reduceAdd, Nat.reduceSub]))
  (refine AW.seq_k ?_; intro K hK)
  refine AW.region ?_
  refine awP (op_move rfl rfl) ?_
  (refine awR (op_load_ptr rfl rfl rfl rfl ag75 sz75 (bl rfl) rfl) ?_)
  refine awJ (OpQ.j (op_callQ (b := true) rfl en89 (C89 (l := l) (g := g) h1) (RL.cons (by exact View.same rfl) (RL.cons (by exact View.same rfl) (RL.nil))) rfl)) ?_; (simp only [nA, ↓reduceIte])
  refine awP (op_geq rfl rfl rfl) ?_
  refine awP (op_assign rfl rfl) ?_
  refine AWL.nil ?_
  (refine hK _ ?_; clear hK K; (simp only [nA]))
  skip
  refine AW.ret ?_; exact RQ.of0 rfl (.tmp (bl rfl) rfl rfl .nil)
theorem C75 {c : Container} {n : Int} : Fn Try.prog 75 [] [.agg c.av, .rop [.v (.int .i64 n)]] [.v (.bool (decide (c.number = n)))] [] := by
  refine Spec.body Try.func75 rfl Try.ntmps75 (by simp) rfl ?_; intro S0 own0 v0 w0
  (refine AW.seq_k ?_; intro K hK)
  refine AW.region ?_
  refine awJ (op_box rfl rfl rfl sz77 rfl) ?_; (simp only [nA, Nat.reduceBEq, Nat.reduceEqDiff, ↓reduceIte])
  refine awP (op_assign rfl rfl) ?_
  refine AWL.nil ?_
  (refine hK _ ?_; clear hK K; (simp only [nA, Nat.reduceBEq, Nat.reduceEqDiff, ↓reduceIte, Nat.reduceAdd, Nat.reduceSub]))
  (refine AW.seq_k ?_; intro K hK)
  refine AW.region ?_
  (refine awP (op_fa_ptr rfl rfl rfl fl77_0 (by exact sz3) (by decide) rfl) ?_)
  (refine awR (op_load_ptr1 rfl rfl rfl rfl ag3 rfl rfl) ?_)
  (refine awR (op_load_rop1 rfl rfl ag3) ?_)
  (refine awP (op_eql rfl rfl rfl) ?_)
  refine awP (op_assign rfl rfl) ?_
  refine AWL.nil ?_
  (refine hK _ ?_; clear hK K; (simp only [nA]))
  skip
  refine AW.ret ?_; exact RQ.of0 rfl (.tmp (bl rfl) rfl rfl .nil)
theorem C74 {l : List Container} {n : Int} (h1 : l.length ≤ 1000) : Fn Try.prog 74 [] [.ro (l.map Container.av), .clo 75 [.rop [.v (.int .i64 n)]]] [.v (.int .i64 (idxI (fun c : Container => decide (c.number = n)) l))] [] := by
  refine Spec.body Try.func74 rfl Try.ntmps74 (by simp) rfl ?_; intro S0 own0 v0 w0
  (refine AW.seq_k ?_; intro K hK)
  refine AW.region ?_
  refine awP (op_assign rfl rfl) ?_
  refine AWL.nil ?_
  (refine hK _ ?_; clear hK K; (simp only [nA, Nat.reduceBEq, Nat.reduceEqDiff, ↓reduceIte, Nat.reduceAdd, Nat.reduceSub]))
  (refine AW.seq_k ?_; intro K hK)
  (refine AW.seq_k ?_; intro K hK)
  refine AW.region ?_
  refine awP (op_move rfl rfl) ?_
  refine awP (op_len_ro (n := l.length) rfl rfl Try.underlying23 (.inr (.inl ⟨_, rfl, by simp⟩))) ?_
  refine awP (op_move rfl rfl) ?_
  refine AWL.nil ?_
  (refine hK _ ?_; clear hK K; (simp only [nA, ↓reduceIte]))
  refine AW.block ?_
  refine AW.loopI (fun i => [(0, .ro (l.map Container.av)), (1, .clo 75 [.rop [.v (.int .i64 n)]]), (7, .v (.int .i64 l.length)), (8, .v (.int .i64 (i : Nat)))]) (fun i => ⟨[], 1⟩) (fun i => i ≤ l.length ∧ ∀ k, k < i → decide ((l.getD k default).number = n) = false) (fun i => l.length - i) 0 (by simp) ⟨rfl, rfl, rfl, rfl, trivial⟩ rfl ?_; intro i ρ hi; simp only [updL]
  (refine AW.seq_k ?_; intro K hK)
  refine AW.region ?_
  refine awP (op_lss rfl rfl rfl) ?_
  refine AWL.nil ?_
  (refine hK _ ?_; clear hK K; (simp only [nA, Nat.reduceBEq, Nat.reduceEqDiff, ↓reduceIte, Nat.reduceAdd, Nat.reduceSub]))
  (refine AW.seq_k ?_; intro K hK)
  refine AW.cond rfl rfl rfl (fun hc => ?_) (fun hc => ?_)
  ·
   have hc1 := hc; have hlt : i < l.length := (by simpa using hc1)
   refine AW.skip ?_
   (refine hK _ ?_; clear hK K; (skip))
   (refine AW.seq_k ?_; intro K hK)
   refine AW.block ?_
   (refine AW.seq_k ?_; intro K hK)
   refine AW.region ?_
   refine awP (op_move rfl rfl) ?_
   refine awP (op_assign rfl rfl) ?_
   refine AWL.nil ?_
   (refine hK _ ?_; clear hK K; (simp only [nA, ↓reduceIte]))
   (refine AW.seq_k ?_; intro K hK)
   refine AW.region ?_
   refine awP (op_move rfl rfl) ?_
   refine awP (op_move rfl rfl) ?_
   refine awP (op_move rfl rfl) ?_
   refine awP (op_ia_ro i rfl (.inl rfl) rfl Try.underlying23 rfl (get_mapD (by omega)) (by exact sz77) (bl rfl)) ?_
   (refine awR (op_load_rop rfl rfl ag77 sz77 (bl rfl) (by decide) rfl) ?_)
   refine awJ (OpQ.j (op_cloQ (b := true) rfl rfl en75 (C75 (c := l.getD i default) (n := n)) (RL.cons (by exact View.same rfl) (RL.nil)) rfl)) ?_; (simp only [nA, ↓reduceIte])
   refine AWL.nil ?_
   (refine hK _ ?_; clear hK K; (skip))
   refine AW.cond rfl rfl rfl (fun hc => ?_) (fun hc => ?_)
   ·
    have hc2 := hc
    (refine AW.seq_k ?_; intro K hK)
    refine AW.region ?_
    refine awP (op_move rfl rfl) ?_
    refine awP (op_assign rfl rfl) ?_
    refine AWL.nil ?_
    (refine hK _ ?_; clear hK K; (simp only [nA, ↓reduceIte]))
    skip
    refine AW.ret ?_; (simp only [thenE, inBlk, Nat.reduceEqDiff, ↓reduceIte]); rw [idx_yes (p := fun c : Container => decide (c.number = n)) hlt hi.2 hc2]; exact RQ.of0 rfl (.tmp (bl rfl) rfl rfl .nil)
   have hc2 := hc
   refine AW.skip ?_
   simp only [thenE, inBlk, Nat.reduceEqDiff, ↓reduceIte]
   (refine hK _ ?_; clear hK K; (skip))
   refine AW.region ?_
   (refine awP (op_addi rfl rfl rfl (by omega)) ?_)
   refine awP (op_move rfl rfl) ?_
   skip
   refine AWL.nil ?_
   refine ⟨i + 1, ⟨by omega, all_f_step (f := fun k => decide ((l.getD k default).number = n)) hi.2 hc2⟩, by omega, ⟨rfl, rfl, rfl, rfl, trivial⟩, (by rfl), (by rfl)⟩
  have hc1 := hc; have hnl : ¬ i < l.length := (by simpa using hc1)
  refine AW.exit ?_; (simp only [thenE, inBlk, Nat.reduceEqDiff, ↓reduceIte])
  clear hK K
  (refine hK _ ?_; clear hK K; (skip))
  (refine AW.seq_k ?_; intro K hK)
  refine AW.region ?_
  refine awP (op_assign rfl rfl) ?_
  refine AWL.nil ?_
  (refine hK _ ?_; clear hK K; (simp only [nA, Nat.reduceBEq, Nat.reduceEqDiff, ↓reduceIte, Nat.reduceAdd, Nat.reduceSub]))
  skip
  refine AW.ret ?_; rw [idx_no (p := fun c : Container => decide (c.number = n)) hnl hi.2]; exact RQ.of0 rfl (.tmp (bl rfl) rfl rfl .nil)
def listEq {α : Type} [Inhabited α] (eq : α → α → Bool) (a b : List α) : Bool := decide ((a.length : Int) = b.length) && (List.range a.length).all fun i => eq (a.getD i default) (b.getD i default)
theorem le_ne {α : Type} [Inhabited α] {eq : α → α → Bool} {a b : List α} (h : (!decide ((a.length : Int) = b.length)) = true) : listEq eq a b = false := by
  unfold listEq
  rw [show decide ((a.length : Int) = b.length) = false by simpa using h, Bool.false_and]
theorem le_no {α : Type} [Inhabited α] {eq : α → α → Bool} {a b : List α} {i : Nat} (hi : i < a.length) (h : (!eq (a.getD i default) (b.getD i default)) = true) : listEq eq a b = false := by
  unfold listEq
  rw [all_range_no hi (by simpa using h), Bool.and_false]
theorem le_yes {α : Type} [Inhabited α] {eq : α → α → Bool} {a b : List α} {i : Nat} (he : (!decide ((a.length : Int) = b.length)) = false) (hi : ¬ i < a.length) (h : ∀ k, k < i → eq (a.getD k default) (b.getD k default) = true) : listEq eq a b = true := by
  unfold listEq
  rw [all_range_yes hi h, Bool.and_true]
  simpa using he
theorem C36 {a b : List Op} (h1 : a.length ≤ 1000000) : Fn Try.prog 36 [] [.ro (a.map Op.av), .ro (b.map Op.av)] [.v (.bool (listEq opEq a b))] [] := by
  refine Spec.body Try.func36 rfl Try.ntmps36 (by simp) rfl ?_; intro S0 own0 v0 w0
  (refine AW.seq_k ?_; intro K hK)
  refine AW.region ?_
  refine awP (op_assign rfl rfl) ?_
  refine AWL.nil ?_
  (refine hK _ ?_; clear hK K; (simp only [nA, Nat.reduceBEq, Nat.reduceEqDiff, ↓reduceIte, Nat.reduceAdd, Nat.reduceSub]))
  (refine AW.seq_k ?_; intro K hK)
  (refine AW.seq_k ?_; intro K hK)
  refine AW.region ?_
  refine awP (op_move rfl rfl) ?_
  refine awP (op_len_ro (n := a.length) rfl rfl Try.underlying24 (.inr (.inl ⟨_, rfl, by simp⟩))) ?_
  refine awP (op_move rfl rfl) ?_
  refine awP (op_len_ro (n := b.length) rfl rfl Try.underlying24 (.inr (.inl ⟨_, rfl, by simp⟩))) ?_
  (refine awP (op_neq rfl rfl rfl) ?_)
  refine AWL.nil ?_
  (refine hK _ ?_; clear hK K; (simp only [nA, ↓reduceIte]))
  refine AW.cond rfl rfl rfl (fun hc => ?_) (fun hc => ?_)
  ·
   have hc1 := hc
   (refine AW.seq_k ?_; intro K hK)
   refine AW.region ?_
   refine awP (op_assign rfl rfl) ?_
   refine AWL.nil ?_
   (refine hK _ ?_; clear hK K; (simp only [nA, Nat.reduceBEq, Nat.reduceEqDiff, ↓reduceIte, Nat.reduceAdd, Nat.reduceSub]))
   skip
   refine AW.ret ?_; (simp only [thenE, inBlk, Nat.reduceEqDiff, ↓reduceIte]); rw [le_ne hc1]; exact RQ.of0 rfl (.tmp (bl rfl) rfl rfl .nil)
  have hc1 := hc; have hle : a.length = b.length := (by have e : (a.length : Int) = b.length := (by simpa using hc1); omega)
  refine AW.skip ?_
  (refine hK _ ?_; clear hK K; (skip))
  (refine AW.seq_k ?_; intro K hK)
  (refine AW.seq_k ?_; intro K hK)
  refine AW.region ?_
  refine awP (op_assign rfl rfl) ?_
  refine AWL.nil ?_
  (refine hK _ ?_; clear hK K; (simp only [nA, Nat.reduceBEq, Nat.reduceEqDiff, ↓reduceIte, Nat.reduceAdd, Nat.reduceSub]))
  refine AW.block ?_
  refine AW.loopI (fun i => [(0, .ro (a.map Op.av)), (1, .ro (b.map Op.av)), (5, .v (.int .i64 (i : Nat)))]) (fun i => ⟨[], 1⟩) (fun i => i ≤ a.length ∧ ∀ k, k < i → opEq (a.getD k default) (b.getD k default) = true) (fun i => a.length - i) 0 (by simp) ⟨rfl, rfl, rfl, trivial⟩ rfl ?_; intro i ρ hi; simp only [updL]
  (refine AW.seq_k ?_; intro K hK)
  (refine AW.seq_k ?_; intro K hK)
  refine AW.region ?_
  refine awP (op_move rfl rfl) ?_
  refine awP (op_move rfl rfl) ?_
  refine awP (op_len_ro (n := a.length) rfl rfl Try.underlying24 (.inr (.inl ⟨_, rfl, by simp⟩))) ?_
  refine awP (op_lss rfl rfl rfl) ?_
  refine AWL.nil ?_
  (refine hK _ ?_; clear hK K; (simp only [nA, ↓reduceIte]))
  refine AW.cond rfl rfl rfl (fun hc => ?_) (fun hc => ?_)
  ·
   have hc2 := hc; have hlt : i < a.length := (by simpa using hc2)
   refine AW.skip ?_
   (refine hK _ ?_; clear hK K; (skip))
   (refine AW.seq_k ?_; intro K hK)
   refine AW.block ?_
   (refine AW.seq_k ?_; intro K hK)
   refine AW.quiet mix (by kernel_rfl) ?_
   refine aqP (op_move rfl rfl) ?_
   refine aqP (op_move rfl rfl) ?_
   refine aqP (op_ia_ro i rfl (.inl rfl) rfl Try.underlying24 rfl (get_mapD (by omega)) (by exact sz33) (bl rfl)) ?_
   (refine aqR (op_load_rop rfl rfl ag33 sz33 (bl rfl) (by decide) rfl) ?_)
   refine aqP (op_move rfl rfl) ?_
   refine aqP (op_move rfl rfl) ?_
   refine aqP (op_ia_ro i rfl (.inl rfl) rfl Try.underlying24 rfl (get_mapD (by omega)) (by exact sz33) (bl rfl)) ?_
   (refine aqR (op_load_rop rfl rfl ag33 sz33 (bl rfl) (by decide) rfl) ?_)
   refine aqP (op_neq33 (p := a.getD i default) (q := b.getD i default) rfl rfl rfl) ?_; (simp only [nA, ↓reduceIte])
   refine AQ.nil ?_
   (refine hK _ ?_; clear hK K; (skip))
   refine AW.cond rfl rfl rfl (fun hc => ?_) (fun hc => ?_)
   ·
    have hc3 := hc
    (refine AW.seq_k ?_; intro K hK)
    refine AW.region ?_
    refine awP (op_assign rfl rfl) ?_
    refine AWL.nil ?_
    (refine hK _ ?_; clear hK K; (simp only [nA, Nat.reduceBEq, Nat.reduceEqDiff, ↓reduceIte, Nat.reduceAdd, Nat.reduceSub]))
    skip
    refine AW.ret ?_; (simp only [thenE, inBlk, Nat.reduceEqDiff, ↓reduceIte]); rw [le_no hlt hc3]; exact RQ.of0 rfl (.tmp (bl rfl) rfl rfl .nil)
   have hc3 := hc
   refine AW.skip ?_
   simp only [thenE, inBlk, Nat.reduceEqDiff, ↓reduceIte]
   (refine hK _ ?_; clear hK K; (skip))
   refine AW.region ?_
   refine awP (op_move rfl rfl) ?_
   (refine awP (op_addi rfl rfl rfl (by omega)) ?_)
   refine awP (op_assign rfl rfl) ?_
   skip
   refine AWL.nil ?_
   refine ⟨i + 1, ⟨by omega, all_b_step hi.2 (by simpa using hc3)⟩, by omega, ⟨rfl, rfl, rfl, trivial⟩, (by rfl), (by rfl)⟩
  have hc2 := hc; have hnl : ¬ i < a.length := (by simpa using hc2)
  refine AW.exit ?_; (simp only [thenE, inBlk, Nat.reduceEqDiff, ↓reduceIte])
  clear hK K
  (refine hK _ ?_; clear hK K; (skip))
  (refine AW.seq_k ?_; intro K hK)
  refine AW.region ?_
  refine awP (op_assign rfl rfl) ?_
  refine AWL.nil ?_
  (refine hK _ ?_; clear hK K; (simp only [nA, Nat.reduceBEq, Nat.reduceEqDiff, ↓reduceIte, Nat.reduceAdd, Nat.reduceSub]))
  skip
  refine AW.ret ?_; rw [le_yes hc1 hnl hi.2]; exact RQ.of0 rfl (.tmp (bl rfl) rfl rfl .nil)
theorem C44 {a b : List Container} (h1 : a.length ≤ 1000000) (hp : ∀ c ∈ a, c.pieces.length ≤ 1000000000) : Fn Try.prog 44 [] [.ro (a.map Container.av), .ro (b.map Container.av)] [.v (.bool (listEq sameC a b))] [] := by
  refine Spec.body Try.func44 rfl Try.ntmps44 (by simp) rfl ?_; intro S0 own0 v0 w0
  (refine AW.seq_k ?_; intro K hK)
  refine AW.region ?_
  refine awP (op_assign rfl rfl) ?_
  refine AWL.nil ?_
  (refine hK _ ?_; clear hK K; (simp only [nA, Nat.reduceBEq, Nat.reduceEqDiff, ↓reduceIte, Nat.reduceAdd, Nat.reduceSub]))
  (refine AW.seq_k ?_; intro K hK)
  (refine AW.seq_k ?_; intro K hK)
  refine AW.region ?_
  refine awP (op_move rfl rfl) ?_
  refine awP (op_len_ro (n := a.length) rfl rfl Try.underlying23 (.inr (.inl ⟨_, rfl, by simp⟩))) ?_
  refine awP (op_move rfl rfl) ?_
  refine awP (op_len_ro (n := b.length) rfl rfl Try.underlying23 (.inr (.inl ⟨_, rfl, by simp⟩))) ?_
  (refine awP (op_neq rfl rfl rfl) ?_)
  refine AWL.nil ?_
  (refine hK _ ?_; clear hK K; (simp only [nA, ↓reduceIte]))
  refine AW.cond rfl rfl rfl (fun hc => ?_) (fun hc => ?_)
  ·
   have hc1 := hc
   (refine AW.seq_k ?_; intro K hK)
   refine AW.region ?_
   refine awP (op_assign rfl rfl) ?_
   refine AWL.nil ?_
   (refine hK _ ?_; clear hK K; (simp only [nA, Nat.reduceBEq, Nat.reduceEqDiff, ↓reduceIte, Nat.reduceAdd, Nat.reduceSub]))
   skip
   refine AW.ret ?_; (simp only [thenE, inBlk, Nat.reduceEqDiff, ↓reduceIte]); rw [le_ne hc1]; exact RQ.of0 rfl (.tmp (bl rfl) rfl rfl .nil)
  have hc1 := hc; have hle : a.length = b.length := (by have e : (a.length : Int) = b.length := (by simpa using hc1); omega)
  refine AW.skip ?_
  (refine hK _ ?_; clear hK K; (skip))
  (refine AW.seq_k ?_; intro K hK)
  (refine AW.seq_k ?_; intro K hK)
  refine AW.region ?_
  refine awP (op_assign rfl rfl) ?_
  refine AWL.nil ?_
  (refine hK _ ?_; clear hK K; (simp only [nA, Nat.reduceBEq, Nat.reduceEqDiff, ↓reduceIte, Nat.reduceAdd, Nat.reduceSub]))
  refine AW.block ?_
  refine AW.loopI (fun i => [(0, .ro (a.map Container.av)), (1, .ro (b.map Container.av)), (5, .v (.int .i64 (i : Nat)))]) (fun i => ⟨[], 1⟩) (fun i => i ≤ a.length ∧ ∀ k, k < i → sameC (a.getD k default) (b.getD k default) = true) (fun i => a.length - i) 0 (by simp) ⟨rfl, rfl, rfl, trivial⟩ rfl ?_; intro i ρ hi; simp only [updL]
  (refine AW.seq_k ?_; intro K hK)
  (refine AW.seq_k ?_; intro K hK)
  refine AW.region ?_
  refine awP (op_move rfl rfl) ?_
  refine awP (op_move rfl rfl) ?_
  refine awP (op_len_ro (n := a.length) rfl rfl Try.underlying23 (.inr (.inl ⟨_, rfl, by simp⟩))) ?_
  refine awP (op_lss rfl rfl rfl) ?_
  refine AWL.nil ?_
  (refine hK _ ?_; clear hK K; (simp only [nA, ↓reduceIte]))
  refine AW.cond rfl rfl rfl (fun hc => ?_) (fun hc => ?_)
  ·
   have hc2 := hc; have hlt : i < a.length := (by simpa using hc2)
   refine AW.skip ?_
   (refine hK _ ?_; clear hK K; (skip))
   (refine AW.seq_k ?_; intro K hK)
   refine AW.block ?_
   (refine AW.seq_k ?_; intro K hK)
   refine AW.quiet mix (by kernel_rfl) ?_
   refine aqP (op_move rfl rfl) ?_
   refine aqP (op_move rfl rfl) ?_
   refine aqP (op_ia_ro i rfl (.inl rfl) rfl Try.underlying23 rfl (get_mapD (by omega)) (by exact sz77) (bl rfl)) ?_
   (refine aqR (op_load_rop rfl rfl ag77 sz77 (bl rfl) (by decide) rfl) ?_)
   refine aqP (op_move rfl rfl) ?_
   refine aqP (op_move rfl rfl) ?_
   refine aqP (op_ia_ro i rfl (.inl rfl) rfl Try.underlying23 rfl (get_mapD (by omega)) (by exact sz77) (bl rfl)) ?_
   (refine aqR (op_load_rop rfl rfl ag77 sz77 (bl rfl) (by decide) rfl) ?_)
   refine aqQ (op_callQ (b := true) rfl en40 (C40 (c := a.getD i default) (d := b.getD i default) (by rw [getD_of hlt]; exact hp _ (List.getElem_mem hlt))) (RL.cons (by exact View.same rfl) (RL.cons (by exact View.same rfl) (RL.nil))) rfl) ?_; (simp only [nA, ↓reduceIte])
   refine aqP (op_not rfl rfl rfl) ?_
   refine AQ.nil ?_
   (refine hK _ ?_; clear hK K; (simp only [nA, Nat.reduceBEq, Nat.reduceEqDiff, ↓reduceIte, Nat.reduceAdd, Nat.reduceSub]))
   refine AW.cond rfl rfl rfl (fun hc => ?_) (fun hc => ?_)
   ·
    have hc3 := hc
    (refine AW.seq_k ?_; intro K hK)
    refine AW.region ?_
    refine awP (op_assign rfl rfl) ?_
    refine AWL.nil ?_
    (refine hK _ ?_; clear hK K; (simp only [nA, Nat.reduceBEq, Nat.reduceEqDiff, ↓reduceIte, Nat.reduceAdd, Nat.reduceSub]))
    skip
    refine AW.ret ?_; (simp only [thenE, inBlk, Nat.reduceEqDiff, ↓reduceIte]); rw [le_no hlt hc3]; exact RQ.of0 rfl (.tmp (bl rfl) rfl rfl .nil)
   have hc3 := hc
   refine AW.skip ?_
   simp only [thenE, inBlk, Nat.reduceEqDiff, ↓reduceIte]
   (refine hK _ ?_; clear hK K; (skip))
   refine AW.region ?_
   refine awP (op_move rfl rfl) ?_
   (refine awP (op_addi rfl rfl rfl (by omega)) ?_)
   refine awP (op_assign rfl rfl) ?_
   skip
   refine AWL.nil ?_
   refine ⟨i + 1, ⟨by omega, all_b_step hi.2 (by simpa using hc3)⟩, by omega, ⟨rfl, rfl, rfl, trivial⟩, (by rfl), (by rfl)⟩
  have hc2 := hc; have hnl : ¬ i < a.length := (by simpa using hc2)
  refine AW.exit ?_; (simp only [thenE, inBlk, Nat.reduceEqDiff, ↓reduceIte])
  clear hK K
  (refine hK _ ?_; clear hK K; (skip))
  (refine AW.seq_k ?_; intro K hK)
  refine AW.region ?_
  refine awP (op_assign rfl rfl) ?_
  refine AWL.nil ?_
  (refine hK _ ?_; clear hK K; (simp only [nA, Nat.reduceBEq, Nat.reduceEqDiff, ↓reduceIte, Nat.reduceAdd, Nat.reduceSub]))
  skip
  refine AW.ret ?_; rw [le_yes hc1 hnl hi.2]; exact RQ.of0 rfl (.tmp (bl rfl) rfl rfl .nil)
def loadedB (l : List Op) (p : Plate) : Bool := ((l.reverse.find? fun o => decide (o.piece.plate = p)).map fun o => decide (o.kind = 1)).getD false
theorem loaded_t {l : List Op} {i : Nat} {p : Plate} (hi : i < l.length) (hp : decide ((l.getD i default).piece.plate = p) = true) : decide ((l.getD i default).kind = 1) = loadedB (l.take (i + 1)) p := by
  unfold loadedB
  rw [List.take_add_one, List.getElem?_eq_getElem hi, List.reverse_append]
  rw [getD_of hi] at hp ⊢
  simp only [Option.toList, List.reverse_cons, List.reverse_nil, List.nil_append, List.cons_append]
  rw [List.find?_cons_of_pos (p := fun o : Op => decide (o.piece.plate = p)) hp]
  rfl
theorem loaded_f {l : List Op} {i : Nat} {p : Plate} (hi : i < l.length) (hp : decide ((l.getD i default).piece.plate = p) = false) : loadedB (l.take i) p = loadedB (l.take (i + 1)) p := by
  unfold loadedB
  rw [List.take_add_one, List.getElem?_eq_getElem hi, List.reverse_append]
  rw [getD_of hi] at hp
  simp only [Option.toList, List.reverse_cons, List.reverse_nil, List.nil_append, List.cons_append]
  rw [List.find?_cons_of_neg (p := fun o : Op => decide (o.piece.plate = p)) (by rw [hp]; decide)]
theorem C39 {l : List Op} {p : Plate} (h1 : l.length ≤ 1000000) : Fn Try.prog 39 [] [.ro (l.map Op.av), .agg p.av] [.v (.bool (loadedB l p))] [] := by
  refine Spec.body Try.func39 rfl Try.ntmps39 (by simp) rfl ?_; intro S0 own0 v0 w0
  (refine AW.seq_k ?_; intro K hK)
  refine AW.region ?_
  refine awJ (op_box rfl rfl rfl sz29 rfl) ?_; (simp only [nA, Nat.reduceBEq, Nat.reduceEqDiff, ↓reduceIte])
  refine awP (op_assign rfl rfl) ?_
  refine AWL.nil ?_
  (refine hK _ ?_; clear hK K; (simp only [nA, Nat.reduceBEq, Nat.reduceEqDiff, ↓reduceIte, Nat.reduceAdd, Nat.reduceSub]))
  (refine AW.seq_k ?_; intro K hK)
  refine AW.region ?_
  refine awP (op_assign rfl rfl) ?_
  refine AWL.nil ?_
  (refine hK _ ?_; clear hK K; (simp only [nA, Nat.reduceBEq, Nat.reduceEqDiff, ↓reduceIte, Nat.reduceAdd, Nat.reduceSub]))
  (refine AW.seq_k ?_; intro K hK)
  (refine AW.seq_k ?_; intro K hK)
  refine AW.region ?_
  refine awP (op_assign rfl rfl) ?_
  refine AWL.nil ?_
  (refine hK _ ?_; clear hK K; (simp only [nA, Nat.reduceBEq, Nat.reduceEqDiff, ↓reduceIte, Nat.reduceAdd, Nat.reduceSub]))
  refine AW.block ?_
  refine AW.loopI (fun i => [(0, .ro (l.map Op.av)), (3, .ptr 0 1 0 0), (5, .v (.bool (loadedB (l.take i) p))), (6, .v (.int .i64 (i : Nat)))]) (fun i => ⟨[(1, .own 29 [p.av])], 2⟩) (fun i => i ≤ l.length) (fun i => l.length - i) 0 (by simp) ⟨rfl, rfl, rfl, rfl, trivial⟩ rfl ?_; intro i ρ hi; simp only [updL]
  (refine AW.seq_k ?_; intro K hK)
  (refine AW.seq_k ?_; intro K hK)
  refine AW.region ?_
  refine awP (op_move rfl rfl) ?_
  refine awP (op_move rfl rfl) ?_
  refine awP (op_len_ro (n := l.length) rfl rfl Try.underlying24 (.inr (.inl ⟨_, rfl, by simp⟩))) ?_
  refine awP (op_lss rfl rfl rfl) ?_
  refine AWL.nil ?_
  (refine hK _ ?_; clear hK K; (simp only [nA, ↓reduceIte]))
  refine AW.cond rfl rfl rfl (fun hc => ?_) (fun hc => ?_)
  ·
   have hc1 := hc; have hlt : i < l.length := (by simpa using hc1)
   refine AW.skip ?_
   (refine hK _ ?_; clear hK K; (skip))
   (refine AW.seq_k ?_; intro K hK)
   refine AW.block ?_
   (refine AW.seq_k ?_; intro K hK)
   refine AW.quiet mix (by kernel_rfl) ?_
   refine aqP (op_move rfl rfl) ?_
   refine aqP (op_move rfl rfl) ?_
   refine aqP (op_ia_ro i rfl (.inl rfl) rfl Try.underlying24 rfl (get_mapD (by omega)) (by exact sz33) (bl rfl)) ?_
   (refine aqP (op_fa_rop rfl rfl fl33_5 (by exact sz31) (by decide) (bl rfl) rfl) ?_)
   (refine aqP (op_fa_rop rfl rfl fl31_0 (by exact sz29) (by decide) (bl rfl) rfl) ?_)
   (refine aqR (op_load_rop rfl rfl ag29 sz29 (bl rfl) (by decide) rfl) ?_)
   (refine aqR (op_load_ptr rfl rfl rfl rfl ag29 sz29 (bl rfl) rfl) ?_)
   refine aqP (op_eq29 (p := (l.getD i default).piece.plate) (q := p) rfl rfl rfl) ?_; (simp only [nA, ↓reduceIte])
   refine AQ.nil ?_
   (refine hK _ ?_; clear hK K; (skip))
   refine AW.cond rfl rfl rfl (fun hc => ?_) (fun hc => ?_)
   ·
    have hc2 := hc
    refine AW.region ?_
    refine awP (op_move rfl rfl) ?_
    refine awP (op_move rfl rfl) ?_
    refine awP (op_ia_ro i rfl (.inl rfl) rfl Try.underlying24 rfl (get_mapD (by omega)) (by exact sz33) (bl rfl)) ?_
    (refine awP (op_fa_rop rfl rfl fl33_3 (by exact sz3) (by decide) (bl rfl) rfl) ?_)
    (refine awR (op_load_rop1 rfl rfl ag3) ?_)
    (refine awP (op_eql rfl rfl rfl) ?_)
    refine awP (op_assign rfl rfl) ?_
    refine AWL.nil ?_
    simp only [thenE, inBlk, Nat.reduceEqDiff, ↓reduceIte]
    (refine hK _ ?_; clear hK K; (simp only [nA, ↓reduceIte]))
    refine AW.region ?_
    refine awP (op_move rfl rfl) ?_
    (refine awP (op_addi rfl rfl rfl (by omega)) ?_)
    refine awP (op_assign rfl rfl) ?_
    skip
    refine AWL.nil ?_
    refine ⟨i + 1, by omega, by omega, ⟨rfl, rfl, (by rw [← loaded_t hlt hc2]; rfl), rfl, trivial⟩, (by rfl), (by rfl)⟩
   have hc2 := hc
   refine AW.skip ?_
   simp only [thenE, inBlk, Nat.reduceEqDiff, ↓reduceIte]
   (refine hK _ ?_; clear hK K; (skip))
   refine AW.region ?_
   refine awP (op_move rfl rfl) ?_
   (refine awP (op_addi rfl rfl rfl (by omega)) ?_)
   refine awP (op_assign rfl rfl) ?_
   skip
   refine AWL.nil ?_
   refine ⟨i + 1, by omega, by omega, ⟨rfl, rfl, (by rw [← loaded_f hlt hc2]; rfl), rfl, trivial⟩, (by rfl), (by rfl)⟩
  have hc1 := hc; have hnl : ¬ i < l.length := (by simpa using hc1)
  refine AW.exit ?_; (simp only [thenE, inBlk, Nat.reduceEqDiff, ↓reduceIte])
  clear hK K
  (refine hK _ ?_; clear hK K; (skip))
  (refine AW.seq_k ?_; intro K hK)
  refine AW.region ?_
  refine awP (op_move rfl rfl) ?_
  refine awP (op_assign rfl rfl) ?_
  refine AWL.nil ?_
  (refine hK _ ?_; clear hK K; (simp only [nA, ↓reduceIte]))
  skip
  refine AW.ret ?_; rw [show loadedB l p = loadedB (l.take i) p by rw [List.take_of_length_le (by omega)]]; exact RQ.of0 rfl (.tmp (bl rfl) rfl rfl .nil)
end Go.Proofs.Ytdnofpggdddimaa
namespace Go.Proofs.Ytdnofpggdddimaa
open Go.RowKit
set_option linter.unusedSimpArgs false
set_option linter.unusedVariables false
set_option maxRecDepth 100000
def flightOf (l : List Container) (n : Int) : Flight × Bool := if idxI (fun c : Container => decide (c.number = n)) l < 0 then (default, false) else ((l.getD (idxI (fun c : Container => decide (c.number = n)) l).toNat default).flight, true)
theorem flight_yes {l : List Container} {n : Int} {i : Nat} (hi : i < l.length) (hn : ∀ k, k < i → decide ((l.getD k default).number = n) = false) (hp : decide ((l.getD i default).number = n) = true) : flightOf l n = ((l.getD i default).flight, true) := by
  unfold flightOf
  rw [idx_yes (p := fun c : Container => decide (c.number = n)) hi hn hp, if_neg (by omega)]
  rfl
theorem flight_no {l : List Container} {n : Int} {i : Nat} (hi : ¬ i < l.length) (hn : ∀ k, k < i → decide ((l.getD k default).number = n) = false) : flightOf l n = (default, false) := by
  unfold flightOf
  rw [idx_no (p := fun c : Container => decide (c.number = n)) hi hn, if_pos (by decide)]
theorem C78 {l : List Container} {n : Int} (h1 : l.length ≤ 1000000) : Fn Try.prog 78 [] [.ro (l.map Container.av), .v (.int .i64 n)] [.agg (flightOf l n).1.av, .v (.bool (flightOf l n).2)] [] := by
  refine Spec.body Try.func78 rfl Try.ntmps78 (by simp) rfl ?_; intro S0 own0 v0 w0
  (refine AW.seq_k ?_; intro K hK)
  refine AW.region ?_
  refine awJ (op_alloc rfl ze73 rfl) ?_; (simp only [nA, Nat.reduceBEq, Nat.reduceEqDiff, ↓reduceIte])
  refine awP (op_assign rfl rfl) ?_
  refine AWL.nil ?_
  (refine hK _ ?_; clear hK K; (simp only [nA, Nat.reduceBEq, Nat.reduceEqDiff, ↓reduceIte, Nat.reduceAdd, Nat.reduceSub]))
  (refine AW.seq_k ?_; intro K hK)
  (refine AW.seq_k ?_; intro K hK)
  refine AW.region ?_
  refine awP (op_assign rfl rfl) ?_
  refine AWL.nil ?_
  (refine hK _ ?_; clear hK K; (simp only [nA, Nat.reduceBEq, Nat.reduceEqDiff, ↓reduceIte, Nat.reduceAdd, Nat.reduceSub]))
  refine AW.block ?_
  refine AW.loopI (fun i => [(0, .ro (l.map Container.av)), (1, .v (.int .i64 n)), (4, .ptr 0 1 0 0), (6, .v (.int .i64 (i : Nat)))]) (fun i => ⟨[(1, .own 73 [(default : Flight).av])], 2⟩) (fun i => i ≤ l.length ∧ ∀ k, k < i → decide ((l.getD k default).number = n) = false) (fun i => l.length - i) 0 (by simp) ⟨rfl, rfl, rfl, rfl, trivial⟩ rfl ?_; intro i ρ hi; simp only [updL]
  (refine AW.seq_k ?_; intro K hK)
  (refine AW.seq_k ?_; intro K hK)
  refine AW.region ?_
  refine awP (op_move rfl rfl) ?_
  refine awP (op_move rfl rfl) ?_
  refine awP (op_len_ro (n := l.length) rfl rfl Try.underlying23 (.inr (.inl ⟨_, rfl, by simp⟩))) ?_
  refine awP (op_lss rfl rfl rfl) ?_
  refine AWL.nil ?_
  (refine hK _ ?_; clear hK K; (simp only [nA, ↓reduceIte]))
  refine AW.cond rfl rfl rfl (fun hc => ?_) (fun hc => ?_)
  ·
   have hc1 := hc; have hlt : i < l.length := (by simpa using hc1)
   refine AW.skip ?_
   (refine hK _ ?_; clear hK K; (skip))
   (refine AW.seq_k ?_; intro K hK)
   refine AW.block ?_
   (refine AW.seq_k ?_; intro K hK)
   refine AW.region ?_
   refine awP (op_move rfl rfl) ?_
   refine awP (op_move rfl rfl) ?_
   refine awP (op_ia_ro i rfl (.inl rfl) rfl Try.underlying23 rfl (get_mapD (by omega)) (by exact sz77) (bl rfl)) ?_
   (refine awP (op_fa_rop rfl rfl fl77_0 (by exact sz3) (by decide) (bl rfl) rfl) ?_)
   (refine awR (op_load_rop1 rfl rfl ag3) ?_)
   refine awP (op_move rfl rfl) ?_
   (refine awP (op_eql rfl rfl rfl) ?_)
   refine AWL.nil ?_
   (refine hK _ ?_; clear hK K; (simp only [nA, ↓reduceIte]))
   refine AW.cond rfl rfl rfl (fun hc => ?_) (fun hc => ?_)
   ·
    have hc2 := hc
    (refine AW.seq_k ?_; intro K hK)
    refine AW.region ?_
    refine awP (op_move rfl rfl) ?_
    refine awP (op_move rfl rfl) ?_
    refine awP (op_ia_ro i rfl (.inl rfl) rfl Try.underlying23 rfl (get_mapD (by omega)) (by exact sz77) (bl rfl)) ?_
    (refine awP (op_fa_rop rfl rfl fl77_1 (by exact sz73) (by decide) (bl rfl) rfl) ?_)
    (refine awR (op_load_rop rfl rfl ag73 sz73 (bl rfl) (by decide) rfl) ?_)
    refine awJ (op_store rfl rfl rfl rfl rfl rfl sz73 rfl (bl rfl) rfl) ?_; (simp only [nA, ↓reduceIte])
    refine awP (op_assign rfl rfl) ?_
    refine AWL.nil ?_
    (refine hK _ ?_; clear hK K; (simp only [nA, Nat.reduceBEq, Nat.reduceEqDiff, ↓reduceIte, Nat.reduceAdd, Nat.reduceSub]))
    skip
    refine AW.ret ?_; (simp only [thenE, inBlk, Nat.reduceEqDiff, ↓reduceIte]); rw [flight_yes hlt hi.2 hc2]; exact RQ.of0 rfl (.cell (bl rfl) rfl rfl rfl ag73 sz73 (bl rfl) rfl rfl (.tmp (bl rfl) rfl rfl .nil))
   have hc2 := hc
   refine AW.skip ?_
   simp only [thenE, inBlk, Nat.reduceEqDiff, ↓reduceIte]
   (refine hK _ ?_; clear hK K; (skip))
   refine AW.region ?_
   refine awP (op_move rfl rfl) ?_
   (refine awP (op_addi rfl rfl rfl (by omega)) ?_)
   refine awP (op_assign rfl rfl) ?_
   skip
   refine AWL.nil ?_
   refine ⟨i + 1, ⟨by omega, all_f_step (f := fun k => decide ((l.getD k default).number = n)) hi.2 hc2⟩, by omega, ⟨rfl, rfl, rfl, rfl, trivial⟩, (by rfl), (by rfl)⟩
  have hc1 := hc; have hnl : ¬ i < l.length := (by simpa using hc1)
  refine AW.exit ?_; (simp only [thenE, inBlk, Nat.reduceEqDiff, ↓reduceIte])
  clear hK K
  (refine hK _ ?_; clear hK K; (skip))
  (refine AW.seq_k ?_; intro K hK)
  refine AW.region ?_
  refine awP (op_build2 (xs := [.v (.string ⟨#[]⟩), .v (.int .i64 0), .v (.string ⟨#[]⟩), .v (.int .i64 0)]) rfl pl73 ze73 [] rfl rfl rfl) ?_
  refine awJ (op_store rfl rfl rfl rfl rfl rfl sz73 rfl (bl rfl) rfl) ?_; (simp only [nA, Nat.reduceBEq, Nat.reduceEqDiff, ↓reduceIte, Nat.reduceAdd, Nat.reduceSub])
  refine awP (op_assign rfl rfl) ?_
  refine AWL.nil ?_
  (refine hK _ ?_; clear hK K; (simp only [nA, Nat.reduceBEq, Nat.reduceEqDiff, ↓reduceIte, Nat.reduceAdd, Nat.reduceSub]))
  skip
  refine AW.ret ?_; rw [flight_no hnl hi.2]; exact RQ.of0 rfl (.cell (bl rfl) rfl rfl rfl ag73 sz73 (bl rfl) rfl rfl (.tmp (bl rfl) rfl rfl .nil))
theorem beq_comm' {α : Type} [BEq α] [LawfulBEq α] (a b : α) : (a == b) = (b == a) := by
  by_cases h : a = b
  · subst h; rfl
  rw [beq_eq_false_iff_ne.2 h, beq_eq_false_iff_ne.2 (Ne.symm h)]
theorem piEq_comm (p q : Piece) : piEq p q = piEq q p := by
  unfold piEq
  rw [beq_comm' p.weight, beq_comm' p.category, show decide (p.plate = q.plate) = decide (q.plate = p.plate) from decide_eq_decide.2 ⟨Eq.symm, Eq.symm⟩]
theorem flEq_comm (p q : Flight) : flEq p q = flEq q p := by
  unfold flEq
  rw [beq_comm' p.carrier.toList, beq_comm' p.number, beq_comm' p.suffix.toList, beq_comm' p.day]
theorem grEq_comm (p q : Grant) : grEq p q = grEq q p := by
  unfold grEq
  rw [piEq_comm, flEq_comm]
def grantedB (l : List Grant) (p : Piece) (f : Flight) : Bool := decide (idxI (fun x => grEq ⟨p, f⟩ x) l ≥ 0)
theorem grt_c {l : List Grant} {i : Nat} {p : Piece} {f : Flight} {b : Bool} (h : (piEq (l.getD i default).piece p && flEq (l.getD i default).flight f) = b) : grEq ⟨p, f⟩ (l.getD i default) = b := by
  rw [grEq_comm]
  exact h
theorem C79 {l : List Grant} {p : Piece} {f : Flight} (h1 : l.length ≤ 1000000) : Fn Try.prog 79 [] [.ro (l.map Grant.av), .agg p.av, .agg f.av] [.v (.bool (grantedB l p f))] [] := by
  refine Spec.body Try.func79 rfl Try.ntmps79 (by simp) rfl ?_; intro S0 own0 v0 w0
  (refine AW.seq_k ?_; intro K hK)
  refine AW.region ?_
  refine awJ (op_box rfl rfl rfl sz31 rfl) ?_; (simp only [nA, Nat.reduceBEq, Nat.reduceEqDiff, ↓reduceIte])
  refine awJ (op_box rfl rfl rfl sz73 rfl) ?_; (simp only [nA, Nat.reduceBEq, Nat.reduceEqDiff, ↓reduceIte])
  refine awP (op_assign rfl rfl) ?_
  refine AWL.nil ?_
  (refine hK _ ?_; clear hK K; (simp only [nA, Nat.reduceBEq, Nat.reduceEqDiff, ↓reduceIte, Nat.reduceAdd, Nat.reduceSub]))
  (refine AW.seq_k ?_; intro K hK)
  (refine AW.seq_k ?_; intro K hK)
  refine AW.region ?_
  refine awP (op_assign rfl rfl) ?_
  refine AWL.nil ?_
  (refine hK _ ?_; clear hK K; (simp only [nA, Nat.reduceBEq, Nat.reduceEqDiff, ↓reduceIte, Nat.reduceAdd, Nat.reduceSub]))
  refine AW.block ?_
  refine AW.loopI (fun i => [(0, .ro (l.map Grant.av)), (4, .ptr 0 1 0 0), (5, .ptr 1 2 0 0), (7, .v (.int .i64 (i : Nat)))]) (fun i => ⟨[(1, .own 31 [p.av]), (2, .own 73 [f.av])], 3⟩) (fun i => i ≤ l.length ∧ ∀ k, k < i → grEq ⟨p, f⟩ (l.getD k default) = false) (fun i => l.length - i) 0 (by simp) ⟨rfl, rfl, rfl, rfl, trivial⟩ rfl ?_; intro i ρ hi; simp only [updL]
  (refine AW.seq_k ?_; intro K hK)
  (refine AW.seq_k ?_; intro K hK)
  refine AW.region ?_
  refine awP (op_move rfl rfl) ?_
  refine awP (op_move rfl rfl) ?_
  refine awP (op_len_ro (n := l.length) rfl rfl Try.underlying22 (.inr (.inl ⟨_, rfl, by simp⟩))) ?_
  refine awP (op_lss rfl rfl rfl) ?_
  refine AWL.nil ?_
  (refine hK _ ?_; clear hK K; (simp only [nA, ↓reduceIte]))
  refine AW.cond rfl rfl rfl (fun hc => ?_) (fun hc => ?_)
  ·
   have hc1 := hc; have hlt : i < l.length := (by simpa using hc1)
   refine AW.skip ?_
   (refine hK _ ?_; clear hK K; (skip))
   (refine AW.seq_k ?_; intro K hK)
   refine AW.block ?_
   (refine AW.seq_k ?_; intro K hK)
   refine AW.quiet mix (by kernel_rfl) ?_
   refine aqP (op_move rfl rfl) ?_
   refine aqP (op_move rfl rfl) ?_
   refine aqP (op_ia_ro i rfl (.inl rfl) rfl Try.underlying22 rfl (get_mapD (by omega)) (by exact sz75) (bl rfl)) ?_
   (refine aqP (op_fa_rop rfl rfl fl75_0 (by exact sz31) (by decide) (bl rfl) rfl) ?_)
   (refine aqR (op_load_rop rfl rfl ag31 sz31 (bl rfl) (by decide) rfl) ?_)
   (refine aqR (op_load_ptr rfl rfl rfl rfl ag31 sz31 (bl rfl) rfl) ?_)
   refine aqP (op_eq31 (p := (l.getD i default).piece) (q := p) rfl rfl rfl) ?_; (simp only [nA, ↓reduceIte])
   refine aqP (op_move rfl rfl) ?_
   refine' aqAnd' [_, _, _, _, _, _, _] [22,23,24,25,26,27,28] rfl rfl rfl rfl rfl rfl rfl rfl rfl rfl rfl rfl (fun hb => ?_) ?_; rotate_left
   ·
    (try simp only [hcS] at hb)
    refine aqP (op_move rfl rfl) ?_
    refine aqP (op_move rfl rfl) ?_
    refine aqP (op_ia_ro i rfl (.inl rfl) rfl Try.underlying22 rfl (get_mapD (by omega)) (by exact sz75) (bl rfl)) ?_
    (refine aqP (op_fa_rop rfl rfl fl75_1 (by exact sz73) (by decide) (bl rfl) rfl) ?_)
    (refine aqR (op_load_rop rfl rfl ag73 sz73 (bl rfl) (by decide) rfl) ?_)
    (refine aqR (op_load_ptr rfl rfl rfl rfl ag73 sz73 (bl rfl) rfl) ?_)
    refine aqP (op_eq73 (p := (l.getD i default).flight) (q := f) rfl rfl rfl) ?_; (simp only [nA, ↓reduceIte])
    (refine aqSeg rfl rfl rfl ?_; repeat (first | exact fun _ _ => rfl | refine upd_out rfl ?_))
   simp only [nA]
   refine AQ.nil ?_
   (refine hK _ ?_; clear hK K; (skip))
   refine AW.cond rfl rfl rfl (fun hc => ?_) (fun hc => ?_)
   ·
    have hc2 := hc
    (refine AW.seq_k ?_; intro K hK)
    refine AW.region ?_
    refine awP (op_assign rfl rfl) ?_
    refine AWL.nil ?_
    (refine hK _ ?_; clear hK K; (simp only [nA, Nat.reduceBEq, Nat.reduceEqDiff, ↓reduceIte, Nat.reduceAdd, Nat.reduceSub]))
    skip
    refine AW.ret ?_; (simp only [thenE, inBlk, Nat.reduceEqDiff, ↓reduceIte]); rw [show grantedB l p f = true by unfold grantedB; rw [idx_yes hlt hi.2 (grt_c hc2), decide_eq_true (by omega)]]; exact RQ.of0 rfl (.tmp (bl rfl) rfl rfl .nil)
   have hc2 := hc
   refine AW.skip ?_
   simp only [thenE, inBlk, Nat.reduceEqDiff, ↓reduceIte]
   (refine hK _ ?_; clear hK K; (skip))
   refine AW.region ?_
   refine awP (op_move rfl rfl) ?_
   (refine awP (op_addi rfl rfl rfl (by omega)) ?_)
   refine awP (op_assign rfl rfl) ?_
   skip
   refine AWL.nil ?_
   refine ⟨i + 1, ⟨by omega, all_f_step hi.2 (grt_c hc2)⟩, by omega, ⟨rfl, rfl, rfl, rfl, trivial⟩, (by rfl), (by rfl)⟩
  have hc1 := hc; have hnl : ¬ i < l.length := (by simpa using hc1)
  refine AW.exit ?_; (simp only [thenE, inBlk, Nat.reduceEqDiff, ↓reduceIte])
  clear hK K
  (refine hK _ ?_; clear hK K; (skip))
  (refine AW.seq_k ?_; intro K hK)
  refine AW.region ?_
  refine awP (op_assign rfl rfl) ?_
  refine AWL.nil ?_
  (refine hK _ ?_; clear hK K; (simp only [nA, Nat.reduceBEq, Nat.reduceEqDiff, ↓reduceIte, Nat.reduceAdd, Nat.reduceSub]))
  skip
  refine AW.ret ?_; rw [show grantedB l p f = false by unfold grantedB; rw [idx_no hnl hi.2]; decide]; exact RQ.of0 rfl (.tmp (bl rfl) rfl rfl .nil)
def headNeH (a b : Hand) : Bool := (((((!decide (a.number = b.number) || !decide (a.next = b.next)) || !decide (a.last = b.last)) || !decide (a.offline = b.offline)) || !decide ((a.grants.length : Int) = b.grants.length)) || !listEq sameC a.conts b.conts) || !listEq opEq a.log b.log
def sameH (a b : Hand) : Bool := !headNeH a b && (List.range a.grants.length).all fun i => grEq (a.grants.getD i default) (b.grants.getD i default)
theorem headNe_len {a b : Hand} (h : headNeH a b = false) : a.grants.length = b.grants.length := by
  unfold headNeH at h
  simp only [Bool.or_eq_false_iff, Bool.not_eq_false', decide_eq_true_eq] at h
  omega
theorem C15 {a b : Hand} (hs : a.Sm) : Fn Try.prog 15 [] [.agg a.av, .agg b.av] [.v (.bool (sameH a b))] [] := by
  refine Spec.body Try.func15 rfl Try.ntmps15 (by simp) rfl ?_; intro S0 own0 v0 w0
  (refine AW.seq_k ?_; intro K hK)
  refine AW.region ?_
  refine awJ (op_box rfl rfl rfl sz26 rfl) ?_; (simp only [nA, Nat.reduceBEq, Nat.reduceEqDiff, ↓reduceIte])
  refine awJ (op_box rfl rfl rfl sz26 rfl) ?_; (simp only [nA, Nat.reduceBEq, Nat.reduceEqDiff, ↓reduceIte])
  refine awP (op_assign rfl rfl) ?_
  refine AWL.nil ?_
  (refine hK _ ?_; clear hK K; (simp only [nA, Nat.reduceBEq, Nat.reduceEqDiff, ↓reduceIte, Nat.reduceAdd, Nat.reduceSub]))
  (refine AW.seq_k ?_; intro K hK)
  (refine AW.seq_k ?_; intro K hK)
  refine AW.region (AWL.quiet ?_)
  (refine aqP (op_fa_ptr rfl rfl rfl fl26_0 (by exact sz3) (by decide) rfl) ?_)
  (refine aqR (op_load_ptr1 rfl rfl rfl rfl ag3 rfl rfl) ?_)
  (refine aqP (op_fa_ptr rfl rfl rfl fl26_0 (by exact sz3) (by decide) rfl) ?_)
  (refine aqR (op_load_ptr1 rfl rfl rfl rfl ag3 rfl rfl) ?_)
  (refine aqP (op_neq rfl rfl rfl) ?_)
  refine aqP (op_move rfl rfl) ?_
  refine' aqOr' [_, _, _, _, _] [12,13,14,15,16] rfl rfl rfl rfl rfl rfl rfl rfl rfl rfl rfl rfl (fun hb => ?_) ?_; rotate_left
  ·
   (try simp only [hcS] at hb)
   (refine aqP (op_fa_ptr rfl rfl rfl fl26_1 (by exact sz3) (by decide) rfl) ?_)
   (refine aqR (op_load_ptr1 rfl rfl rfl rfl ag3 rfl rfl) ?_)
   (refine aqP (op_fa_ptr rfl rfl rfl fl26_1 (by exact sz3) (by decide) rfl) ?_)
   (refine aqR (op_load_ptr1 rfl rfl rfl rfl ag3 rfl rfl) ?_)
   (refine aqP (op_neq rfl rfl rfl) ?_)
   (refine aqSeg rfl rfl rfl ?_; repeat (first | exact fun _ _ => rfl | refine upd_out rfl ?_))
  simp only [nA]
  refine aqP (op_move rfl rfl) ?_
  refine' aqOr' [_, _, _, _, _] [19,20,21,22,23] rfl rfl rfl rfl rfl rfl rfl rfl rfl rfl rfl rfl (fun hb => ?_) ?_; rotate_left
  ·
   (try simp only [hcS] at hb)
   (refine aqP (op_fa_ptr rfl rfl rfl fl26_2 (by exact sz3) (by decide) rfl) ?_)
   (refine aqR (op_load_ptr1 rfl rfl rfl rfl ag3 rfl rfl) ?_)
   (refine aqP (op_fa_ptr rfl rfl rfl fl26_2 (by exact sz3) (by decide) rfl) ?_)
   (refine aqR (op_load_ptr1 rfl rfl rfl rfl ag3 rfl rfl) ?_)
   (refine aqP (op_neq rfl rfl rfl) ?_)
   (refine aqSeg rfl rfl rfl ?_; repeat (first | exact fun _ _ => rfl | refine upd_out rfl ?_))
  simp only [nA]
  refine aqP (op_move rfl rfl) ?_
  refine' aqOr' [_, _, _, _, _] [26,27,28,29,30] rfl rfl rfl rfl rfl rfl rfl rfl rfl rfl rfl rfl (fun hb => ?_) ?_; rotate_left
  ·
   (try simp only [hcS] at hb)
   (refine aqP (op_fa_ptr rfl rfl rfl fl26_3 (by exact sz4) (by decide) rfl) ?_)
   (refine aqR (op_load_ptr1 rfl rfl rfl rfl ag4 rfl rfl) ?_)
   (refine aqP (op_fa_ptr rfl rfl rfl fl26_3 (by exact sz4) (by decide) rfl) ?_)
   (refine aqR (op_load_ptr1 rfl rfl rfl rfl ag4 rfl rfl) ?_)
   (refine aqP (op_bneq rfl rfl rfl Try.underlying4) ?_)
   (refine aqSeg rfl rfl rfl ?_; repeat (first | exact fun _ _ => rfl | refine upd_out rfl ?_))
  simp only [nA]
  refine aqP (op_move rfl rfl) ?_
  refine' aqOr' [_, _, _, _, _, _, _] [33,34,35,36,37,38,39] rfl rfl rfl rfl rfl rfl rfl rfl rfl rfl rfl rfl (fun hb => ?_) ?_; rotate_left
  ·
   (try simp only [hcS] at hb)
   (refine aqP (op_fa_ptr rfl rfl rfl fl26_4 (by exact sz22) (by decide) rfl) ?_)
   (refine aqR (op_load_ptr1 rfl rfl rfl rfl ag22 rfl rfl) ?_)
   refine aqP (op_len_ro (n := a.grants.length) rfl rfl Try.underlying22 (.inr (.inl ⟨_, rfl, by simp⟩))) ?_
   (refine aqP (op_fa_ptr rfl rfl rfl fl26_4 (by exact sz22) (by decide) rfl) ?_)
   (refine aqR (op_load_ptr1 rfl rfl rfl rfl ag22 rfl rfl) ?_)
   refine aqP (op_len_ro (n := b.grants.length) rfl rfl Try.underlying22 (.inr (.inl ⟨_, rfl, by simp⟩))) ?_
   (refine aqP (op_neq rfl rfl rfl) ?_)
   (refine aqSeg rfl rfl rfl ?_; repeat (first | exact fun _ _ => rfl | refine upd_out rfl ?_))
  simp only [nA]
  refine aqP (op_move rfl rfl) ?_
  refine' aqOr' [_, _, _, _, _, _] [42,43,44,45,46,47] rfl rfl rfl rfl rfl rfl rfl rfl rfl rfl rfl rfl (fun hb => ?_) ?_; rotate_left
  ·
   (try simp only [hcS] at hb)
   (refine aqP (op_fa_ptr rfl rfl rfl fl26_5 (by exact sz23) (by decide) rfl) ?_)
   (refine aqR (op_load_ptr1 rfl rfl rfl rfl ag23 rfl rfl) ?_)
   (refine aqP (op_fa_ptr rfl rfl rfl fl26_5 (by exact sz23) (by decide) rfl) ?_)
   (refine aqR (op_load_ptr1 rfl rfl rfl rfl ag23 rfl rfl) ?_)
   refine aqQ (op_callQ (b := true) rfl en44 (C44 (a := a.conts) (b := b.conts) (by have := hs.c; omega) (fun c hc => Nat.le_trans (hs.p c hc) (by omega))) (RL.cons (by exact View.same rfl) (RL.cons (by exact View.same rfl) (RL.nil))) rfl) ?_; (simp only [nA])
   refine aqP (op_not rfl rfl rfl) ?_
   (refine aqSeg rfl rfl rfl ?_; repeat (first | exact fun _ _ => rfl | refine upd_out rfl ?_))
  simp only [nA]
  refine aqP (op_move rfl rfl) ?_
  refine' aqOr' [_, _, _, _, _, _] [50,51,52,53,54,55] rfl rfl rfl rfl rfl rfl rfl rfl rfl rfl rfl rfl (fun hb => ?_) ?_; rotate_left
  ·
   (try simp only [hcS] at hb)
   (refine aqP (op_fa_ptr rfl rfl rfl fl26_6 (by exact sz24) (by decide) rfl) ?_)
   (refine aqR (op_load_ptr1 rfl rfl rfl rfl ag24 rfl rfl) ?_)
   (refine aqP (op_fa_ptr rfl rfl rfl fl26_6 (by exact sz24) (by decide) rfl) ?_)
   (refine aqR (op_load_ptr1 rfl rfl rfl rfl ag24 rfl rfl) ?_)
   refine aqQ (op_callQ (b := true) rfl en36 (C36 (a := a.log) (b := b.log) (by have := hs.l; omega)) (RL.cons (by exact View.same rfl) (RL.cons (by exact View.same rfl) (RL.nil))) rfl) ?_; (simp only [nA])
   refine aqP (op_not rfl rfl rfl) ?_
   (refine aqSeg rfl rfl rfl ?_; repeat (first | exact fun _ _ => rfl | refine upd_out rfl ?_))
  simp only [nA]
  refine AQ.nil ?_
  (refine hK _ ?_; clear hK K; (skip))
  refine AW.cond rfl rfl rfl (fun hc => ?_) (fun hc => ?_)
  ·
   have hc1 := hc
   (refine AW.seq_k ?_; intro K hK)
   refine AW.region ?_
   refine awP (op_assign rfl rfl) ?_
   refine AWL.nil ?_
   (refine hK _ ?_; clear hK K; (simp only [nA, Nat.reduceBEq, Nat.reduceEqDiff, ↓reduceIte, Nat.reduceAdd, Nat.reduceSub]))
   skip
   refine AW.ret ?_; (simp only [thenE, inBlk, Nat.reduceEqDiff, ↓reduceIte]); rw [show sameH a b = false by unfold sameH; rw [show headNeH a b = true from hc1]; rfl]; exact RQ.of0 rfl (.tmp (bl rfl) rfl rfl .nil)
  have hc1 := hc; have hle := headNe_len (a := a) (b := b) hc1; have hg := hs.g
  refine AW.skip ?_
  (refine hK _ ?_; clear hK K; (skip))
  (refine AW.seq_k ?_; intro K hK)
  (refine AW.seq_k ?_; intro K hK)
  refine AW.region ?_
  refine awP (op_assign rfl rfl) ?_
  refine AWL.nil ?_
  (refine hK _ ?_; clear hK K; (simp only [nA, Nat.reduceBEq, Nat.reduceEqDiff, ↓reduceIte, Nat.reduceAdd, Nat.reduceSub]))
  refine AW.block ?_
  refine AW.loopI (fun i => [(2, .ptr 0 1 0 0), (3, .ptr 1 2 0 0), (5, .v (.int .i64 (i : Nat)))]) (fun i => ⟨[(1, .own 26 [a.av]), (2, .own 26 [b.av])], 3⟩) (fun i => i ≤ a.grants.length ∧ ∀ k, k < i → grEq (a.grants.getD k default) (b.grants.getD k default) = true) (fun i => a.grants.length - i) 0 (by simp) ⟨rfl, rfl, rfl, trivial⟩ rfl ?_; intro i ρ hi; simp only [updL]
  (refine AW.seq_k ?_; intro K hK)
  (refine AW.seq_k ?_; intro K hK)
  refine AW.region ?_
  refine awP (op_move rfl rfl) ?_
  (refine awP (op_fa_ptr rfl rfl rfl fl26_4 (by exact sz22) (by decide) rfl) ?_)
  (refine awR (op_load_ptr1 rfl rfl rfl rfl ag22 rfl rfl) ?_)
  refine awP (op_len_ro (n := a.grants.length) rfl rfl Try.underlying22 (.inr (.inl ⟨_, rfl, by simp⟩))) ?_
  refine awP (op_lss rfl rfl rfl) ?_
  refine AWL.nil ?_
  (refine hK _ ?_; clear hK K; (simp only [nA, ↓reduceIte]))
  refine AW.cond rfl rfl rfl (fun hc => ?_) (fun hc => ?_)
  ·
   have hc2 := hc; have hlt : i < a.grants.length := (by simpa using hc2)
   refine AW.skip ?_
   (refine hK _ ?_; clear hK K; (skip))
   (refine AW.seq_k ?_; intro K hK)
   refine AW.block ?_
   (refine AW.seq_k ?_; intro K hK)
   refine AW.quiet mix (by kernel_rfl) ?_
   (refine aqP (op_fa_ptr rfl rfl rfl fl26_4 (by exact sz22) (by decide) rfl) ?_)
   (refine aqR (op_load_ptr1 rfl rfl rfl rfl ag22 rfl rfl) ?_)
   refine aqP (op_move rfl rfl) ?_
   refine aqP (op_ia_ro i rfl (.inl rfl) rfl Try.underlying22 rfl (get_mapD (by omega)) (by exact sz75) (bl rfl)) ?_
   (refine aqR (op_load_rop rfl rfl ag75 sz75 (bl rfl) (by decide) rfl) ?_)
   (refine aqP (op_fa_ptr rfl rfl rfl fl26_4 (by exact sz22) (by decide) rfl) ?_)
   (refine aqR (op_load_ptr1 rfl rfl rfl rfl ag22 rfl rfl) ?_)
   refine aqP (op_move rfl rfl) ?_
   refine aqP (op_ia_ro i rfl (.inl rfl) rfl Try.underlying22 rfl (get_mapD (by omega)) (by exact sz75) (bl rfl)) ?_
   (refine aqR (op_load_rop rfl rfl ag75 sz75 (bl rfl) (by decide) rfl) ?_)
   refine aqP (op_neq75 (p := a.grants.getD i default) (q := b.grants.getD i default) rfl rfl rfl) ?_; (simp only [nA, ↓reduceIte])
   refine AQ.nil ?_
   (refine hK _ ?_; clear hK K; (skip))
   refine AW.cond rfl rfl rfl (fun hc => ?_) (fun hc => ?_)
   ·
    have hc3 := hc
    (refine AW.seq_k ?_; intro K hK)
    refine AW.region ?_
    refine awP (op_assign rfl rfl) ?_
    refine AWL.nil ?_
    (refine hK _ ?_; clear hK K; (simp only [nA, Nat.reduceBEq, Nat.reduceEqDiff, ↓reduceIte, Nat.reduceAdd, Nat.reduceSub]))
    skip
    refine AW.ret ?_; (simp only [thenE, inBlk, Nat.reduceEqDiff, ↓reduceIte]); rw [show sameH a b = false by unfold sameH; rw [all_range_no hlt (by simpa using hc3), Bool.and_false]]; exact RQ.of0 rfl (.tmp (bl rfl) rfl rfl .nil)
   have hc3 := hc
   refine AW.skip ?_
   simp only [thenE, inBlk, Nat.reduceEqDiff, ↓reduceIte]
   (refine hK _ ?_; clear hK K; (skip))
   refine AW.region ?_
   refine awP (op_move rfl rfl) ?_
   (refine awP (op_addi rfl rfl rfl (by omega)) ?_)
   refine awP (op_assign rfl rfl) ?_
   skip
   refine AWL.nil ?_
   refine ⟨i + 1, ⟨by omega, all_b_step hi.2 (by simpa using hc3)⟩, by omega, ⟨rfl, rfl, rfl, trivial⟩, (by rfl), (by rfl)⟩
  have hc2 := hc; have hnl : ¬ i < a.grants.length := (by simpa using hc2)
  refine AW.exit ?_; (simp only [thenE, inBlk, Nat.reduceEqDiff, ↓reduceIte])
  clear hK K
  (refine hK _ ?_; clear hK K; (skip))
  (refine AW.seq_k ?_; intro K hK)
  refine AW.region ?_
  refine awP (op_assign rfl rfl) ?_
  refine AWL.nil ?_
  (refine hK _ ?_; clear hK K; (simp only [nA, Nat.reduceBEq, Nat.reduceEqDiff, ↓reduceIte, Nat.reduceAdd, Nat.reduceSub]))
  skip
  refine AW.ret ?_; rw [show sameH a b = true by unfold sameH; rw [show headNeH a b = false from hc1, all_range_yes hnl hi.2]; rfl]; exact RQ.of0 rfl (.tmp (bl rfl) rfl rfl .nil)
end Go.Proofs.Ytdnofpggdddimaa
namespace Go.Proofs.Ytdnofpggdddimaa
open Go.RowKit
set_option linter.unusedSimpArgs false
set_option linter.unusedVariables false
set_option maxRecDepth 100000
theorem ne_of_len {n : Nat} {es : List (List AV)} (h : ∀ x ∈ es, x.length = n + 1) : ∀ r ∈ es, r ≠ [] := fun r hr e => by
  have := h r hr; rw [e] at this; cases this
theorem gav_len (l : List Grant) : ∀ x ∈ l.map Grant.av, x.length = 9 := fun x hx => by obtain ⟨g, _, rfl⟩ := List.mem_map.1 hx; rfl
theorem opv_len (l : List Op) : ∀ x ∈ l.map Op.av, x.length = 10 := fun x hx => by obtain ⟨g, _, rfl⟩ := List.mem_map.1 hx; rfl
theorem gav_flat (l : List Grant) : ∀ r ∈ l.map Grant.av, ∀ c ∈ r, flatA c = true := fun r hr c hc => by
  obtain ⟨g, _, rfl⟩ := List.mem_map.1 hr
  simp only [Grant.av, List.mem_cons, List.not_mem_nil, or_false] at hc
  rcases hc with rfl | rfl | rfl | rfl | rfl | rfl | rfl | rfl | rfl <;> rfl
theorem opv_flat (l : List Op) : ∀ r ∈ l.map Op.av, ∀ c ∈ r, flatA c = true := fun r hr c hc => by
  obtain ⟨g, _, rfl⟩ := List.mem_map.1 hr
  simp only [Op.av, List.mem_cons, List.not_mem_nil, or_false] at hc
  rcases hc with rfl | rfl | rfl | rfl | rfl | rfl | rfl | rfl | rfl | rfl <;> rfl
theorem conv_flat (l : List Container) : ∀ r ∈ l.map Container.av, ∀ c ∈ r, flatA c = true := fun r hr c hc => by
  obtain ⟨g, _, rfl⟩ := List.mem_map.1 hr
  simp only [Container.av, List.mem_cons, List.not_mem_nil, or_false] at hc
  rcases hc with rfl | rfl | rfl | rfl | rfl | rfl | rfl | rfl | rfl | rfl | rfl <;> rfl
theorem C65 {l : List Grant} (hl : l.length ≤ 1000000) : Fn Try.prog 65 [] [.ro (l.map Grant.av)] [.ro (l.map Grant.av)] [] := by
  refine Spec.body Try.func65 rfl Try.ntmps65 (by simp) rfl ?_; intro S0 own0 v0 w0
  (refine AW.seq_k ?_; intro K hK)
  refine AW.region ?_
  refine awP (op_assign rfl rfl) ?_
  refine AWL.nil ?_
  (refine hK _ ?_; clear hK K; (simp only [nA, Nat.reduceBEq, Nat.reduceEqDiff, ↓reduceIte, Nat.reduceAdd, Nat.reduceSub]))
  (refine AW.seq_k ?_; intro K hK)
  (refine AW.seq_k ?_; intro K hK)
  refine AW.region ?_
  refine awP (op_move rfl rfl) ?_
  refine awE (op_eqnil rfl rfl Try.underlying22 (ne_of_len (gav_len l))) ?_; rintro _ ⟨b, rfl, hb⟩; (simp only [nA, ↓reduceIte])
  refine AWL.nil ?_
  (refine hK _ ?_; clear hK K; (skip))
  refine AW.cond rfl rfl rfl (fun hc => ?_) (fun hc => ?_)
  ·
   (try simp only [hcS] at hc); have hc1 := hc; obtain rfl : l = [] := (by simpa using hb (by simpa using hc))
   (refine AW.seq_k ?_; intro K hK)
   refine AW.region ?_
   refine awP (op_assign rfl rfl) ?_
   refine AWL.nil ?_
   (refine hK _ ?_; clear hK K; (simp only [nA, Nat.reduceBEq, Nat.reduceEqDiff, ↓reduceIte, Nat.reduceAdd, Nat.reduceSub]))
   refine AW.gh (Gh.nil (e := 75) 2 (bl rfl) rfl sz75) ?_; (simp only [nA, Nat.reduceBEq, Nat.reduceEqDiff, ↓reduceIte]); refine AW.gh (Gh.freeze 2 (bl rfl) rfl rfl (by simp) (es' := ([] : List Grant).map Grant.av) rfl) ?_; (simp only [nA, Nat.reduceBEq, Nat.reduceEqDiff, ↓reduceIte, Nat.reduceAdd, Nat.reduceSub])
   refine AW.ret ?_; (simp only [thenE, inBlk, Nat.reduceEqDiff, ↓reduceIte]); exact RQ.of0 rfl (.tmp (bl rfl) rfl rfl .nil)
  (try simp only [hcS] at hc); have hc1 := hc
  refine AW.skip ?_
  (refine hK _ ?_; clear hK K; (skip))
  (refine AW.seq_k ?_; intro K hK)
  refine AW.region ?_
  refine awJ (op_buildSlice rfl [] [] Try.underlying22 ze75 rfl (by simp) rfl (by simp) rfl (bl rfl) (by simp [maxLen])) ?_; (simp only [nA, Nat.reduceBEq, Nat.reduceEqDiff, ↓reduceIte])
  refine awP (op_move rfl rfl) ?_
  refine awJ (op_app rfl rfl rfl rfl rfl .ro Try.underlying22 ze75 (by decide) (gav_len _) (by simp; omega) (by decide) (List.nil_append _) rfl) ?_; (simp only [nA, Nat.reduceBEq, Nat.reduceEqDiff, ↓reduceIte])
  refine awP (op_assign rfl rfl) ?_
  refine AWL.nil ?_
  (refine hK _ ?_; clear hK K; (simp only [nA]))
  refine AW.gh (Gh.freeze 2 (bl rfl) rfl rfl (gav_flat l) (es' := l.map Grant.av) (List.take_of_length_le (by simp))) ?_; (simp only [nA, Nat.reduceBEq, Nat.reduceEqDiff, ↓reduceIte, Nat.reduceAdd, Nat.reduceSub])
  refine AW.ret ?_; exact RQ.of0 rfl (.tmp (bl rfl) rfl rfl .nil)
theorem C69 {l : List Op} (hl : l.length ≤ 1000000) : Fn Try.prog 69 [] [.ro (l.map Op.av)] [.ro (l.map Op.av)] [] := by
  refine Spec.body Try.func69 rfl Try.ntmps69 (by simp) rfl ?_; intro S0 own0 v0 w0
  (refine AW.seq_k ?_; intro K hK)
  refine AW.region ?_
  refine awP (op_assign rfl rfl) ?_
  refine AWL.nil ?_
  (refine hK _ ?_; clear hK K; (simp only [nA, Nat.reduceBEq, Nat.reduceEqDiff, ↓reduceIte, Nat.reduceAdd, Nat.reduceSub]))
  (refine AW.seq_k ?_; intro K hK)
  (refine AW.seq_k ?_; intro K hK)
  refine AW.region ?_
  refine awP (op_move rfl rfl) ?_
  refine awE (op_eqnil rfl rfl Try.underlying24 (ne_of_len (opv_len l))) ?_; rintro _ ⟨b, rfl, hb⟩; (simp only [nA, ↓reduceIte])
  refine AWL.nil ?_
  (refine hK _ ?_; clear hK K; (skip))
  refine AW.cond rfl rfl rfl (fun hc => ?_) (fun hc => ?_)
  ·
   (try simp only [hcS] at hc); have hc1 := hc; obtain rfl : l = [] := (by simpa using hb (by simpa using hc))
   (refine AW.seq_k ?_; intro K hK)
   refine AW.region ?_
   refine awP (op_assign rfl rfl) ?_
   refine AWL.nil ?_
   (refine hK _ ?_; clear hK K; (simp only [nA, Nat.reduceBEq, Nat.reduceEqDiff, ↓reduceIte, Nat.reduceAdd, Nat.reduceSub]))
   refine AW.gh (Gh.nil (e := 33) 2 (bl rfl) rfl sz33) ?_; (simp only [nA, Nat.reduceBEq, Nat.reduceEqDiff, ↓reduceIte]); refine AW.gh (Gh.freeze 2 (bl rfl) rfl rfl (by simp) (es' := ([] : List Op).map Op.av) rfl) ?_; (simp only [nA, Nat.reduceBEq, Nat.reduceEqDiff, ↓reduceIte, Nat.reduceAdd, Nat.reduceSub])
   refine AW.ret ?_; (simp only [thenE, inBlk, Nat.reduceEqDiff, ↓reduceIte]); exact RQ.of0 rfl (.tmp (bl rfl) rfl rfl .nil)
  (try simp only [hcS] at hc); have hc1 := hc
  refine AW.skip ?_
  (refine hK _ ?_; clear hK K; (skip))
  (refine AW.seq_k ?_; intro K hK)
  refine AW.region ?_
  refine awJ (op_buildSlice rfl [] [] Try.underlying24 ze33 rfl (by simp) rfl (by simp) rfl (bl rfl) (by simp [maxLen])) ?_; (simp only [nA, Nat.reduceBEq, Nat.reduceEqDiff, ↓reduceIte])
  refine awP (op_move rfl rfl) ?_
  refine awJ (op_app rfl rfl rfl rfl rfl .ro Try.underlying24 ze33 (by decide) (opv_len _) (by simp; omega) (by decide) (List.nil_append _) rfl) ?_; (simp only [nA, Nat.reduceBEq, Nat.reduceEqDiff, ↓reduceIte])
  refine awP (op_assign rfl rfl) ?_
  refine AWL.nil ?_
  (refine hK _ ?_; clear hK K; (simp only [nA]))
  refine AW.gh (Gh.freeze 2 (bl rfl) rfl rfl (opv_flat l) (es' := l.map Op.av) (List.take_of_length_le (by simp))) ?_; (simp only [nA, Nat.reduceBEq, Nat.reduceEqDiff, ↓reduceIte, Nat.reduceAdd, Nat.reduceSub])
  refine AW.ret ?_; exact RQ.of0 rfl (.tmp (bl rfl) rfl rfl .nil)
theorem conv_len (l : List Container) : ∀ x ∈ l.map Container.av, x.length = 11 := fun x hx => by obtain ⟨g, _, rfl⟩ := List.mem_map.1 hx; rfl
theorem C84 {l : List Container} (hl : l.length ≤ 1000000) : Fn Try.prog 84 [] [.ro (l.map Container.av)] [.own 77 (l.map Container.av)] [] := by
  refine Spec.body Try.func84 rfl Try.ntmps84 (by simp) rfl ?_; intro S0 own0 v0 w0
  (refine AW.seq_k ?_; intro K hK)
  refine AW.region ?_
  refine awP (op_assign rfl rfl) ?_
  refine AWL.nil ?_
  (refine hK _ ?_; clear hK K; (simp only [nA, Nat.reduceBEq, Nat.reduceEqDiff, ↓reduceIte, Nat.reduceAdd, Nat.reduceSub]))
  (refine AW.seq_k ?_; intro K hK)
  (refine AW.seq_k ?_; intro K hK)
  refine AW.region ?_
  refine awP (op_move rfl rfl) ?_
  refine awE (op_eqnil rfl rfl Try.underlying23 (ne_of_len (conv_len l))) ?_; rintro _ ⟨b, rfl, hb⟩; (simp only [nA, ↓reduceIte])
  refine AWL.nil ?_
  (refine hK _ ?_; clear hK K; (skip))
  refine AW.cond rfl rfl rfl (fun hc => ?_) (fun hc => ?_)
  ·
   (try simp only [hcS] at hc); have hc1 := hc; obtain rfl : l = [] := (by simpa using hb (by simpa using hc))
   (refine AW.seq_k ?_; intro K hK)
   refine AW.region ?_
   refine awP (op_assign rfl rfl) ?_
   refine AWL.nil ?_
   (refine hK _ ?_; clear hK K; (simp only [nA, Nat.reduceBEq, Nat.reduceEqDiff, ↓reduceIte, Nat.reduceAdd, Nat.reduceSub]))
   refine AW.gh (Gh.nil (e := 77) 2 (bl rfl) rfl sz77) ?_; (simp only [nA, Nat.reduceBEq, Nat.reduceEqDiff, ↓reduceIte])
   refine AW.ret ?_; (simp only [thenE, inBlk, Nat.reduceEqDiff, ↓reduceIte]); exact RQ.of0 rfl (.own (bl rfl) rfl rfl rfl (by simp) .nil)
  (try simp only [hcS] at hc); have hc1 := hc
  refine AW.skip ?_
  (refine hK _ ?_; clear hK K; (skip))
  (refine AW.seq_k ?_; intro K hK)
  refine AW.region ?_
  refine awJ (op_buildSlice rfl [] [] Try.underlying23 ze77 rfl (by simp) rfl (by simp) rfl (bl rfl) (by simp [maxLen])) ?_; (simp only [nA, Nat.reduceBEq, Nat.reduceEqDiff, ↓reduceIte])
  refine awP (op_move rfl rfl) ?_
  refine awJ (op_app rfl rfl rfl rfl rfl .ro Try.underlying23 ze77 (by decide) (conv_len _) (by simp; omega) (by decide) (List.nil_append _) rfl) ?_; (simp only [nA, Nat.reduceBEq, Nat.reduceEqDiff, ↓reduceIte])
  refine awP (op_assign rfl rfl) ?_
  refine AWL.nil ?_
  (refine hK _ ?_; clear hK K; (simp only [nA]))
  skip
  refine AW.ret ?_; exact RQ.of0 rfl (.own (bl rfl) rfl rfl (by simp) (by simp) .nil)
end Go.Proofs.Ytdnofpggdddimaa
