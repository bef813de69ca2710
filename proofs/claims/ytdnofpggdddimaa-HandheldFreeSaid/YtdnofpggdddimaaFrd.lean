import Derived.Test.YtdnofpggdddimaaFrc
namespace Go.Proofs.Ytdnofpggdddimaa
open Go.RowKit
set_option linter.unusedSimpArgs false
set_option linter.unusedVariables false
set_option maxRecDepth 100000
abbrev plV (p : Plate) : Value := .agg #[.int .i64 p.lead, .int .i64 p.airline, .int .i64 p.serial]
abbrev spV (c : Container) : Value := .agg #[.string c.flight.carrier, .int .i64 c.flight.number, .string c.flight.suffix, .int .i64 c.flight.day, .int .i64 c.position]
structure Spot where
  carrier : List UInt8
  number : Int
  suffix : List UInt8
  day : Int
  position : Int
  deriving DecidableEq
def spotOf (c : Container) : Spot := ⟨c.flight.carrier.data.toList, c.flight.number, c.flight.suffix.data.toList, c.flight.day, c.position⟩
theorem plV_mem {p : Plate} {l : List Plate} : decide (p ∈ l) = true ↔ plV p ∈ l.map plV := by
  rw [decide_eq_true_eq, List.mem_map]
  constructor
  · intro h; exact ⟨p, h, rfl⟩
  · rintro ⟨q, hq, e⟩
    obtain ⟨a, b, c⟩ := p
    obtain ⟨a', b', c'⟩ := q
    simp at e
    obtain ⟨rfl, rfl, rfl⟩ := e
    exact hq
theorem bytes_ext {a b : ByteArray} (h : a.data.toList = b.data.toList) : a = b := by
  cases a; cases b
  simp at h
  rw [h]
theorem spV_mem {c : Container} {l : List Container} : decide (spotOf c ∈ l.map spotOf) = true ↔ spV c ∈ l.map spV := by
  rw [decide_eq_true_eq, List.mem_map, List.mem_map]
  have key : ∀ d : Container, spotOf d = spotOf c ↔ spV d = spV c := fun d => by
    unfold spotOf
    simp only [Spot.mk.injEq]
    constructor
    · rintro ⟨h1, h2, h3, h4, h5⟩
      show Value.agg _ = Value.agg _
      rw [bytes_ext h1, h2, bytes_ext h3, h4, h5]
    · intro h
      simp at h
      obtain ⟨h1, h2, h3, h4, h5⟩ := h
      exact ⟨by rw [h1], h2, by rw [h3], h4, h5⟩
  constructor
  · rintro ⟨d, hd, e⟩; exact ⟨d, hd, (key d).1 e⟩
  · rintro ⟨d, hd, e⟩; exact ⟨d, hd, (key d).2 e⟩
def chkP : List Piece → List Plate → Option (List Plate)
  | [], pl => some pl
  | p :: l, pl => if p.plate ∈ pl then none else chkP l (p.plate :: pl)
theorem chkP_nil (pl : List Plate) : chkP [] pl = some pl := rfl
theorem chkP_cons (p : Piece) (l : List Piece) (pl : List Plate) : chkP (p :: l) pl = if p.plate ∈ pl then none else chkP l (p.plate :: pl) := rfl
def prevBad (o : Option Int) (n : Int) : Bool := match o with
  | none => false
  | some m => decide (n ≤ m)
def chk : Option Int → List Container → List Container → List Plate → Int
  | _, [], _, _ => 0
  | o, c :: cs, sp, pl => if valC c ≠ 0 then valC c else if prevBad o c.number = true then 9 else if c.position ≠ 0 ∧ spotOf c ∈ sp.map spotOf then 7 else
    match chkP c.pieces pl with
    | none => 5
    | some pl' => chk (some c.number) cs (if c.position ≠ 0 then c :: sp else sp) pl'
def chkL (xs : List Container) : Int := if (xs.length : Int) > 24 then 2 else chk none xs [] []
def prevN (xs : List Container) (i : Nat) : Option Int := if i = 0 then none else some (xs.getD (i - 1) default).number
theorem prevN_succ {xs : List Container} {i : Nat} {c : Container} (h : xs[i]? = some c) : prevN xs (i + 1) = some c.number := by
  unfold prevN
  rw [if_neg (by omega), Nat.add_sub_cancel, List.getD_eq_getElem?_getD, h]
  rfl
theorem prevBad_eq (xs : List Container) (i : Nat) (n : Int) : prevBad (prevN xs i) n = (decide ((i : Int) > 0) && decide (n ≤ (xs.getD (i - 1) default).number)) := by
  unfold prevN
  by_cases h : i = 0
  · subst h; rfl
  · rw [if_neg h, show decide ((i : Int) > 0) = true from decide_eq_true (by omega)]
    rfl
theorem drop_cons {α : Type} {xs : List α} {i : Nat} {c : α} (h : xs[i]? = some c) : xs.drop i = c :: xs.drop (i + 1) := by
  obtain ⟨hi, rfl⟩ := List.getElem?_eq_some_iff.1 h
  exact List.drop_eq_getElem_cons hi
theorem fl_range {f : Flight} (h : flB f = true) : f.carrier.size ≤ maxLen ∧ (Lit.int .i64 f.number).wf = true ∧ f.suffix.size ≤ maxLen ∧ (Lit.int .i64 f.day).wf = true := by
  unfold flB carB lettersB at h
  simp at h
  unfold maxLen
  exact ⟨by omega, wf64 (by omega), by omega, wf64 (by omega)⟩
theorem co_parts {c : Container} (h : coB c = true) : flB c.flight = true ∧ 0 ≤ c.position ∧ c.position ≤ 24 ∧ 1 ≤ c.number ∧ c.number ≤ 999 := by
  unfold coB inB at h
  simp at h
  exact ⟨h.1.1.1.1.1.2, by omega, by omega, by omega, by omega⟩
theorem pl_range {p : Plate} (h : plB p = true) : (Lit.int .i64 p.lead).wf = true ∧ (Lit.int .i64 p.airline).wf = true ∧ (Lit.int .i64 p.serial).wf = true := by
  unfold plB at h
  simp at h
  exact ⟨wf64 (by omega), wf64 (by omega), wf64 (by omega)⟩
set_option maxHeartbeats 4000000 in
theorem C64 {xs : List Container} (hx : xs.length ≤ 1000000) : Fn Try.prog 64 [] [.ro (xs.map Container.av)] [.v (.int .i64 (chkL xs))] [] := by
  refine Spec.body Try.func64 rfl Try.ntmps64 (by simp) rfl ?_; intro S0 own0 v0 w0
  (refine AW.seq_k ?_; intro K hK)
  refine AW.region ?_
  refine awP (op_assign rfl rfl) ?_
  refine AWL.nil ?_
  (refine hK _ ?_; clear hK K; (simp only [nA, Nat.reduceBEq, Nat.reduceEqDiff, ↓reduceIte, Nat.reduceAdd, Nat.reduceSub]))
  (refine AW.seq_k ?_; intro K hK)
  (refine AW.seq_k ?_; intro K hK)
  refine AW.region ?_
  refine awP (op_move rfl rfl) ?_
  (refine awP (op_len_ro rfl rfl Try.underlying23 (by exact .inr (.inl ⟨_, rfl, rfl⟩))) ?_)
  refine awP (op_gtr rfl rfl rfl) ?_
  refine AWL.nil ?_
  (refine hK _ ?_; clear hK K; (simp only [nA, Nat.reduceBEq, Nat.reduceEqDiff, ↓reduceIte, Nat.reduceAdd, Nat.reduceSub]))
  refine AW.cond rfl rfl rfl (fun hc => ?_) (fun hc => ?_)
  ·
   (try simp only [hcS] at hc); have hc1 := hc; skip
   (refine AW.seq_k ?_; intro K hK)
   refine AW.region ?_
   refine awP (op_assign rfl rfl) ?_
   refine AWL.nil ?_
   (refine hK _ ?_; clear hK K; (simp only [nA, Nat.reduceBEq, Nat.reduceEqDiff, ↓reduceIte, Nat.reduceAdd, Nat.reduceSub]))
   skip
   refine AW.ret ?_; (simp only [thenE, inBlk, Nat.reduceEqDiff, ↓reduceIte]); rw [show chkL xs = 2 by unfold chkL; rw [if_pos (by omega)]]; exact RQ.of0 rfl (.tmp (Nat.le_of_ble_eq_true rfl) rfl rfl .nil)
  ·
   (try simp only [hcS] at hc); have hc1 := hc; skip
   refine AW.skip ?_
   (refine hK _ ?_; clear hK K; (skip))
   (refine AW.seq_k ?_; intro K hK)
   refine AW.region ?_
   refine awJ (op_makeMap rfl Try.underlying117 Try.underlying4 kd120) ?_; (simp only [nA, Nat.reduceBEq, Nat.reduceEqDiff, ↓reduceIte, Nat.reduceAdd, Nat.reduceSub])
   refine awJ (op_makeMap rfl Try.underlying118 Try.underlying4 kd29) ?_; (simp only [nA, Nat.reduceBEq, Nat.reduceEqDiff, ↓reduceIte, Nat.reduceAdd, Nat.reduceSub])
   refine awP (op_assign rfl rfl) ?_
   refine awP (op_assign rfl rfl) ?_
   refine AWL.nil ?_
   (refine hK _ ?_; clear hK K; (simp only [nA, Nat.reduceBEq, Nat.reduceEqDiff, ↓reduceIte, Nat.reduceAdd, Nat.reduceSub]))
   (refine AW.seq_k ?_; intro K hK)
   (refine AW.seq_k ?_; intro K hK)
   refine AW.region ?_
   refine awP (op_move rfl rfl) ?_
   (refine awP (op_len_ro rfl rfl Try.underlying23 (by exact .inr (.inl ⟨_, rfl, rfl⟩))) ?_)
   refine awP (op_move rfl rfl) ?_
   refine AWL.nil ?_
   (refine hK _ ?_; clear hK K; (simp only [nA, Nat.reduceBEq, Nat.reduceEqDiff, ↓reduceIte, Nat.reduceAdd, Nat.reduceSub]))
   refine AW.block ?_
   refine AW.loopI (fun (q : Nat × List Container × List Plate × Nat) => [(0, .ro (xs.map Container.av)), (3, .mp 0 1), (4, .mp 1 2), (16, .ro (xs.map Container.av)), (17, .v (.int .i64 (xs.length : Nat))), (18, .v (.int .i64 (q.1 : Nat)))]) (fun q => ⟨[(1, .om 117 (q.2.1.map spV)), (2, .om 118 (q.2.2.1.map plV))], q.2.2.2⟩) (fun q => q.1 ≤ xs.length ∧ q.2.1.length ≤ q.1 ∧ q.2.2.1.length ≤ 60 * q.1 ∧ chk (prevN xs q.1) (xs.drop q.1) q.2.1 q.2.2.1 = chkL xs) (fun q => xs.length - q.1) (0, [], [], 3) ⟨by simp, by simp, by simp, by unfold chkL; rw [if_neg (by omega)]; rfl⟩ ⟨rfl, rfl, rfl, rfl, rfl, rfl, trivial⟩ rfl ?_; rintro ⟨i, sp, pl, e⟩ ρ hI; simp only at hI; simp only [updL]
   (refine AW.seq_k ?_; intro K hK)
   refine AW.region ?_
   refine awP (op_lss rfl rfl rfl) ?_
   refine AWL.nil ?_
   (refine hK _ ?_; clear hK K; (simp only [nA, Nat.reduceBEq, Nat.reduceEqDiff, ↓reduceIte, Nat.reduceAdd, Nat.reduceSub]))
   (refine AW.seq_k ?_; intro K hK)
   refine AW.cond rfl rfl rfl (fun hc => ?_) (fun hc => ?_)
   ·
    (try simp only [hcS] at hc); have hc2 := hc; have hlt : i < xs.length := (by simpa using hc2); obtain ⟨c, hci⟩ : ∃ c, xs[i]? = some c := ⟨xs[i], List.getElem?_eq_getElem hlt⟩; have hR := hI.2.2.2; rw [drop_cons hci] at hR; unfold chk at hR
    refine AW.skip ?_
    (refine hK _ ?_; clear hK K; (skip))
    (refine AW.seq_k ?_; intro K hK)
    refine AW.block ?_
    (refine AW.seq_k ?_; intro K hK)
    refine AW.region ?_
    refine awP (op_move rfl rfl) ?_
    (refine awP (op_ia_ro i rfl (.inl rfl) rfl Try.underlying23 rfl (get_of hci) (by exact sz77) (Nat.le_of_ble_eq_true rfl)) ?_)
    (refine awR (op_load_rop rfl rfl ag77 sz77 (Nat.le_of_ble_eq_true rfl) (by decide) rfl) ?_)
    refine awJ (op_alloc rfl ze77 rfl) ?_; (simp only [nA, Nat.reduceBEq, Nat.reduceEqDiff, ↓reduceIte, Nat.reduceAdd, Nat.reduceSub])
    refine awP (op_assign rfl rfl) ?_
    refine awJ (op_store rfl rfl rfl rfl rfl rfl sz77 rfl (Nat.le_of_ble_eq_true rfl) rfl) ?_; (simp only [nA, Nat.reduceBEq, Nat.reduceEqDiff, ↓reduceIte, Nat.reduceAdd, Nat.reduceSub])
    refine AWL.nil ?_
    (refine hK _ ?_; clear hK K; (skip))
    (refine AW.seq_k ?_; intro K hK)
    (refine AW.seq_k ?_; intro K hK)
    refine AW.region ?_
    (refine awR (op_load_ptr rfl rfl rfl rfl ag77 sz77 (Nat.le_of_ble_eq_true rfl) rfl) ?_)
    refine awJ (OpQ.j (op_callQ (b := true) rfl en83 (C83 (c := c)) (RL.cons (by exact View.same rfl) (RL.nil)) rfl)) ?_; (simp only [nA, Nat.reduceBEq, Nat.reduceEqDiff, ↓reduceIte, Nat.reduceAdd, Nat.reduceSub])
    refine awP (op_assign rfl rfl) ?_
    refine AWL.nil ?_
    (refine hK _ ?_; clear hK K; (simp only [nA, Nat.reduceBEq, Nat.reduceEqDiff, ↓reduceIte, Nat.reduceAdd, Nat.reduceSub]))
    (refine AW.seq_k ?_; intro K hK)
    refine AW.region ?_
    refine awP (op_move rfl rfl) ?_
    (refine awP (op_neq rfl rfl rfl) ?_)
    refine AWL.nil ?_
    (refine hK _ ?_; clear hK K; (simp only [nA, Nat.reduceBEq, Nat.reduceEqDiff, ↓reduceIte, Nat.reduceAdd, Nat.reduceSub]))
    refine AW.cond rfl rfl rfl (fun hc => ?_) (fun hc => ?_)
    ·
     (try simp only [hcS] at hc); have hc3 := hc; skip
     (refine AW.seq_k ?_; intro K hK)
     refine AW.region ?_
     refine awP (op_move rfl rfl) ?_
     refine awP (op_assign rfl rfl) ?_
     refine AWL.nil ?_
     (refine hK _ ?_; clear hK K; (simp only [nA, Nat.reduceBEq, Nat.reduceEqDiff, ↓reduceIte, Nat.reduceAdd, Nat.reduceSub]))
     skip
     refine AW.ret ?_; (simp only [thenE, inBlk, Nat.reduceEqDiff, ↓reduceIte]); rw [if_pos (by simpa using hc3)] at hR; rw [← hR]; exact RQ.of0 rfl (.tmp (Nat.le_of_ble_eq_true rfl) rfl rfl .nil)
    ·
     (try simp only [hcS] at hc); have hc3 := hc; have hv0 : valC c = 0 := (by simpa using hc3); have hv := val_inv hv0; have hco := co_parts hv.1; have hfr := fl_range hco.1; rw [if_neg (by simp [hv0])] at hR
     refine AW.skip ?_
     (refine hK _ ?_; clear hK K; (skip))
     (refine AW.seq_k ?_; intro K hK)
     (refine AW.seq_k ?_; intro K hK)
     refine AW.quiet mix (by kernel_rfl) ?_
     refine aqP (op_move rfl rfl) ?_
     refine aqP (op_gtr rfl rfl rfl) ?_
     refine aqP (op_move rfl rfl) ?_
     refine' aqAnd' [_, _, _, _, _, _, _, _, _] [31,32,33,34,35,36,37,38,39] rfl rfl rfl rfl rfl rfl rfl rfl rfl rfl rfl rfl (fun hb => ?_) ?_; rotate_left
     ·
      (try simp only [hcS] at hb)
      (refine aqP (op_fa_ptr rfl rfl rfl fl77_0 (by exact sz3) (by decide) rfl) ?_)
      (refine aqR (op_load_ptr1 rfl rfl rfl rfl ag3 rfl rfl) ?_)
      refine aqP (op_move rfl rfl) ?_
      refine aqP (op_move rfl rfl) ?_
      (refine aqP (op_subi rfl rfl rfl (by omega)) ?_)
      (refine aqP (op_ia_ro (i - 1) rfl (.inl rfl) rfl Try.underlying23 (by omega) (get_mapD (by omega)) (by exact sz77) (Nat.le_of_ble_eq_true rfl)) ?_)
      (refine aqP (op_fa_rop rfl rfl fl77_0 (by exact sz3) (by decide) (Nat.le_of_ble_eq_true rfl) rfl) ?_)
      (refine aqR (op_load_rop1 rfl rfl ag3) ?_)
      refine aqP (op_leq rfl rfl rfl) ?_
      (refine aqSeg rfl rfl rfl ?_; repeat (first | exact fun _ _ => rfl | refine upd_out rfl ?_))
     (simp only [nA, Nat.reduceBEq, Nat.reduceEqDiff, ↓reduceIte, Nat.reduceAdd, Nat.reduceSub])
     refine AQ.nil ?_
     (refine hK _ ?_; clear hK K; (skip))
     refine AW.cond rfl rfl rfl (fun hc => ?_) (fun hc => ?_)
     ·
      (try simp only [hcS] at hc); have hc4 := hc; skip
      (refine AW.seq_k ?_; intro K hK)
      refine AW.region ?_
      refine awP (op_assign rfl rfl) ?_
      refine AWL.nil ?_
      (refine hK _ ?_; clear hK K; (simp only [nA, Nat.reduceBEq, Nat.reduceEqDiff, ↓reduceIte, Nat.reduceAdd, Nat.reduceSub]))
      skip
      refine AW.ret ?_; (simp only [thenE, inBlk, Nat.reduceEqDiff, ↓reduceIte]); rw [if_pos (by rw [prevBad_eq]; simpa using hc)] at hR; rw [← hR]; exact RQ.of0 rfl (.tmp (Nat.le_of_ble_eq_true rfl) rfl rfl .nil)
     ·
      (try simp only [hcS] at hc); have hc4 := hc; rw [if_neg (by rw [prevBad_eq]; simp only [Bool.and_eq_true, decide_eq_true_eq]; omega)] at hR
      refine AW.skip ?_
      (refine hK _ ?_; clear hK K; (skip))
      (refine AW.seq_k ?_; intro K hK)
      (refine AW.seq_k ?_; intro K hK)
      refine AW.region ?_
      (refine awP (op_fa_ptr rfl rfl rfl fl77_1 (by exact sz73) (by decide) rfl) ?_)
      (refine awR (op_load_ptr rfl rfl rfl rfl ag73 sz73 (Nat.le_of_ble_eq_true rfl) rfl) ?_)
      (refine awP (op_fa_ptr rfl rfl rfl fl77_5 (by exact sz3) (by decide) rfl) ?_)
      (refine awR (op_load_ptr1 rfl rfl rfl rfl ag3 rfl rfl) ?_)
      refine awP (op_build2 (xs := [_, _, _, _, _]) rfl pl120 ze120 [(0, [_, _, _, _]), (1, [_])] rfl rfl rfl) ?_
      refine awJ (op_alloc rfl ze120 rfl) ?_; (simp only [nA, Nat.reduceBEq, Nat.reduceEqDiff, ↓reduceIte, Nat.reduceAdd, Nat.reduceSub])
      refine awJ (op_store rfl rfl rfl rfl rfl rfl sz120 rfl (Nat.le_of_ble_eq_true rfl) rfl) ?_; (simp only [nA, Nat.reduceBEq, Nat.reduceEqDiff, ↓reduceIte, Nat.reduceAdd, Nat.reduceSub])
      refine AWL.nil ?_
      (refine hK _ ?_; clear hK K; (skip))
      (refine AW.seq_k ?_; intro K hK)
      refine AW.region ?_
      (refine awP (op_fa_ptr rfl rfl rfl fl77_5 (by exact sz3) (by decide) rfl) ?_)
      (refine awR (op_load_ptr1 rfl rfl rfl rfl ag3 rfl rfl) ?_)
      (refine awP (op_neq rfl rfl rfl) ?_)
      refine AWL.nil ?_
      (refine hK _ ?_; clear hK K; (simp only [nA, Nat.reduceBEq, Nat.reduceEqDiff, ↓reduceIte, Nat.reduceAdd, Nat.reduceSub]))
      refine AW.cond rfl rfl rfl (fun hc => ?_) (fun hc => ?_)
      ·
       (try simp only [hcS] at hc); have hc5 := hc; skip
       (refine AW.seq_k ?_; intro K hK)
       (refine AW.seq_k ?_; intro K hK)
       refine AW.region ?_
       refine awP (op_move rfl rfl) ?_
       (refine awR (op_load_ptr rfl rfl rfl rfl ag120 sz120 (Nat.le_of_ble_eq_true rfl) rfl) ?_)
       refine awR (op_lookup (b := decide (spotOf c ∈ sp.map spotOf)) (ks := sp.map spV) (xs := [.string c.flight.carrier, .int .i64 c.flight.number, .string c.flight.suffix, .int .i64 c.flight.day, .int .i64 c.position]) rfl rfl rfl rfl Try.underlying117 zf4 (key120 hfr.1 hfr.2.1 hfr.2.2.1 hfr.2.2.2 (wf64 (by omega))) spV_mem) ?_; (simp only [nA, Nat.reduceBEq, Nat.reduceEqDiff, ↓reduceIte, Nat.reduceAdd, Nat.reduceSub])
       refine AWL.nil ?_
       (refine hK _ ?_; clear hK K; (skip))
       refine AW.cond rfl rfl rfl (fun hc => ?_) (fun hc => ?_)
       ·
        (try simp only [hcS] at hc); have hc6 := hc; skip
        (refine AW.seq_k ?_; intro K hK)
        refine AW.region ?_
        refine awP (op_assign rfl rfl) ?_
        refine AWL.nil ?_
        (refine hK _ ?_; clear hK K; (simp only [nA, Nat.reduceBEq, Nat.reduceEqDiff, ↓reduceIte, Nat.reduceAdd, Nat.reduceSub]))
        skip
        refine AW.ret ?_; (simp only [thenE, inBlk, Nat.reduceEqDiff, ↓reduceIte]); rw [if_pos ⟨hc5, by simpa using hc⟩] at hR; rw [← hR]; exact RQ.of0 rfl (.tmp (Nat.le_of_ble_eq_true rfl) rfl rfl .nil)
       ·
        (try simp only [hcS] at hc); have hc6 := hc; rw [if_neg (fun h => absurd h.2 (by simpa using hc6)), if_pos hc5] at hR
        refine AW.skip ?_
        (refine hK _ ?_; clear hK K; (skip))
        refine AW.region ?_
        refine awP (op_move rfl rfl) ?_
        (refine awR (op_load_ptr rfl rfl rfl rfl ag120 sz120 (Nat.le_of_ble_eq_true rfl) rfl) ?_)
        refine awJ (op_mapUpdate (ks := sp.map spV) (xs := [.string c.flight.carrier, .int .i64 c.flight.number, .string c.flight.suffix, .int .i64 c.flight.day, .int .i64 c.position]) rfl rfl rfl rfl rfl Try.underlying117 (key120 hfr.1 hfr.2.1 hfr.2.2.1 hfr.2.2.2 (wf64 (by omega))) (by simp [maxLen]; omega)) ?_; (simp only [nA, Nat.reduceBEq, Nat.reduceEqDiff, ↓reduceIte, Nat.reduceAdd, Nat.reduceSub])
        refine AWL.nil ?_
        (refine hK _ ?_; clear hK K; (skip))
        (refine AW.seq_k ?_; intro K hK)
        refine AW.region ?_
        (refine awP (op_fa_ptr rfl rfl rfl fl77_7 (by exact sz53) (by decide) rfl) ?_)
        (refine awR (op_load_ptr1 rfl rfl rfl rfl ag53 rfl rfl) ?_)
        (refine awP (op_len_ro rfl rfl Try.underlying53 (by exact .inr (.inl ⟨_, rfl, rfl⟩))) ?_)
        refine awP (op_move rfl rfl) ?_
        refine AWL.nil ?_
        (refine hK _ ?_; clear hK K; (simp only [nA, Nat.reduceBEq, Nat.reduceEqDiff, ↓reduceIte, Nat.reduceAdd, Nat.reduceSub]))
        refine AW.block ?_
        refine AW.loopI (fun (q : Nat × List Plate × Nat) => [(0, .ro (xs.map Container.av)), (3, .mp 0 1), (4, .mp 1 2), (16, .ro (xs.map Container.av)), (17, .v (.int .i64 (xs.length : Nat))), (18, .v (.int .i64 (i : Nat))), (55, .ro (c.pieces.map Piece.av)), (56, .v (.int .i64 (c.pieces.length : Nat))), (57, .v (.int .i64 (q.1 : Nat)))]) (fun q => ⟨[(1, .om 117 (((c :: sp).map spV))), (2, .om 118 (q.2.1.map plV)), (e, .own 77 [c.av]), (e + 1, .own 120 [[.v (.string c.flight.carrier), .v (.int .i64 c.flight.number), .v (.string c.flight.suffix), .v (.int .i64 c.flight.day), .v (.int .i64 c.position)]])], q.2.2⟩) (fun q => q.1 ≤ c.pieces.length ∧ q.2.1.length ≤ 60 * i + q.1 ∧ chkP (c.pieces.drop q.1) q.2.1 = chkP c.pieces pl) (fun q => c.pieces.length - q.1) (0, pl, _) ⟨by simp, by simp; omega, rfl⟩ ⟨rfl, rfl, rfl, rfl, rfl, rfl, rfl, rfl, rfl, trivial⟩ rfl ?_; rintro ⟨j, pl2, e2⟩ ρ hJ; simp only at hJ; simp only [updL]; (simp only [nA, Nat.reduceBEq, Nat.reduceEqDiff, ↓reduceIte, Nat.reduceAdd, Nat.reduceSub])
        (refine AW.seq_k ?_; intro K hK)
        refine AW.region ?_
        refine awP (op_lss rfl rfl rfl) ?_
        refine AWL.nil ?_
        (refine hK _ ?_; clear hK K; (simp only [nA, Nat.reduceBEq, Nat.reduceEqDiff, ↓reduceIte, Nat.reduceAdd, Nat.reduceSub]))
        (refine AW.seq_k ?_; intro K hK)
        refine AW.cond rfl rfl rfl (fun hc => ?_) (fun hc => ?_)
        ·
         (try simp only [hcS] at hc); have hc7 := hc; have hjl : j < c.pieces.length := (by omega); obtain ⟨p, hpj⟩ : ∃ p, c.pieces[j]? = some p := ⟨c.pieces[j], List.getElem?_eq_getElem hjl⟩; have hP := hJ.2.2; rw [drop_cons hpj, chkP_cons] at hP; have hpi := piB_inv (hv.2.2.1 p (List.mem_of_getElem? hpj)); have hpr := pl_range hpi.1
         refine AW.skip ?_
         (refine hK _ ?_; clear hK K; (skip))
         (refine AW.seq_k ?_; intro K hK)
         refine AW.block ?_
         (refine AW.seq_k ?_; intro K hK)
         refine AW.region ?_
         (refine awP (op_ia_ro j rfl (.inl rfl) rfl Try.underlying53 rfl (get_of hpj) (by exact sz31) (Nat.le_of_ble_eq_true rfl)) ?_)
         (refine awR (op_load_rop rfl rfl ag31 sz31 (Nat.le_of_ble_eq_true rfl) (by decide) rfl) ?_)
         refine awJ (op_alloc rfl ze31 rfl) ?_; (simp only [nA, Nat.reduceBEq, Nat.reduceEqDiff, ↓reduceIte, Nat.reduceAdd, Nat.reduceSub])
         refine awJ (op_store rfl rfl rfl rfl rfl rfl sz31 rfl (Nat.le_of_ble_eq_true rfl) rfl) ?_; (simp only [nA, Nat.reduceBEq, Nat.reduceEqDiff, ↓reduceIte, Nat.reduceAdd, Nat.reduceSub])
         refine AWL.nil ?_
         (refine hK _ ?_; clear hK K; (skip))
         (refine AW.seq_k ?_; intro K hK)
         (refine AW.seq_k ?_; intro K hK)
         refine AW.region ?_
         refine awP (op_move rfl rfl) ?_
         (refine awP (op_fa_ptr rfl rfl rfl fl31_0 (by exact sz29) (by decide) rfl) ?_)
         (refine awR (op_load_ptr rfl rfl rfl rfl ag29 sz29 (Nat.le_of_ble_eq_true rfl) rfl) ?_)
         refine awR (op_lookup (b := decide (p.plate ∈ pl2)) (ks := pl2.map plV) (xs := [.int .i64 p.plate.lead, .int .i64 p.plate.airline, .int .i64 p.plate.serial]) rfl rfl rfl rfl Try.underlying118 zf4 (key29 hpr.1 hpr.2.1 hpr.2.2) plV_mem) ?_; (simp only [nA, Nat.reduceBEq, Nat.reduceEqDiff, ↓reduceIte, Nat.reduceAdd, Nat.reduceSub])
         refine AWL.nil ?_
         (refine hK _ ?_; clear hK K; (skip))
         refine AW.cond rfl rfl rfl (fun hc => ?_) (fun hc => ?_)
         ·
          (try simp only [hcS] at hc); have hc8 := hc; skip
          (refine AW.seq_k ?_; intro K hK)
          refine AW.region ?_
          refine awP (op_assign rfl rfl) ?_
          refine AWL.nil ?_
          (refine hK _ ?_; clear hK K; (simp only [nA, Nat.reduceBEq, Nat.reduceEqDiff, ↓reduceIte, Nat.reduceAdd, Nat.reduceSub]))
          skip
          refine AW.ret ?_; (simp only [thenE, inBlk, Nat.reduceEqDiff, ↓reduceIte]); rw [if_pos (by simpa using hc)] at hP; rw [← hP] at hR; rw [← hR]; exact RQ.of0 rfl (.tmp (Nat.le_of_ble_eq_true rfl) rfl rfl .nil)
         ·
          (try simp only [hcS] at hc); have hc8 := hc; rw [if_neg (by simpa using hc8)] at hP
          refine AW.skip ?_
          (refine hK _ ?_; clear hK K; (skip))
          refine AW.region ?_
          refine awP (op_move rfl rfl) ?_
          (refine awP (op_fa_ptr rfl rfl rfl fl31_0 (by exact sz29) (by decide) rfl) ?_)
          (refine awR (op_load_ptr rfl rfl rfl rfl ag29 sz29 (Nat.le_of_ble_eq_true rfl) rfl) ?_)
          refine awJ (op_mapUpdate (ks := pl2.map plV) (xs := [.int .i64 p.plate.lead, .int .i64 p.plate.airline, .int .i64 p.plate.serial]) rfl rfl rfl rfl rfl Try.underlying118 (key29 hpr.1 hpr.2.1 hpr.2.2) (by simp [maxLen]; omega)) ?_; (simp only [nA, Nat.reduceBEq, Nat.reduceEqDiff, ↓reduceIte, Nat.reduceAdd, Nat.reduceSub])
          refine AWL.nil ?_
          (simp only [thenE, inBlk, Nat.reduceEqDiff, ↓reduceIte])
          (refine hK _ ?_; clear hK K; (skip))
          refine AW.region ?_
          (refine awP (op_addi rfl rfl rfl (by omega)) ?_)
          refine awP (op_move rfl rfl) ?_
          refine AWL.gh (Gh.drop 4) ?_; (simp only [nA, Nat.reduceBEq, Nat.reduceEqDiff, ↓reduceIte, Nat.reduceAdd, Nat.reduceSub])
          refine AWL.nil ?_
          refine ⟨(j + 1, p.plate :: pl2, _), ⟨by dsimp only; omega, by simp; omega, hP⟩, by dsimp only; omega, ⟨rfl, rfl, rfl, rfl, rfl, rfl, rfl, rfl, rfl, trivial⟩, (by rfl), (by rfl)⟩
        ·
         (try simp only [hcS] at hc); have hc7 := hc; obtain rfl : j = c.pieces.length := (by omega); have hP := hJ.2.2; rw [List.drop_length, chkP_nil] at hP; rw [← hP] at hR; simp only at hR
         refine AW.exit ?_; (simp only [thenE, inBlk, Nat.reduceEqDiff, ↓reduceIte])
         clear hK K
         (refine hK _ ?_; clear hK K; (skip))
         refine AW.region ?_
         (refine awP (op_addi rfl rfl rfl (by omega)) ?_)
         refine awP (op_move rfl rfl) ?_
         refine AWL.gh (Gh.drop 2) ?_; (simp only [nA, Nat.reduceBEq, Nat.reduceEqDiff, ↓reduceIte, Nat.reduceAdd, Nat.reduceSub])
         refine AWL.nil ?_
         refine ⟨(i + 1, c :: sp, pl2, _), ⟨by dsimp only; omega, by simp; omega, by dsimp only; omega, by dsimp only; rw [prevN_succ hci]; exact hR⟩, by dsimp only; omega, ⟨rfl, rfl, rfl, rfl, rfl, rfl, trivial⟩, (by rfl), (by rfl)⟩
      ·
       (try simp only [hcS] at hc); have hc5 := hc; rw [if_neg (fun h => h.1 (by simpa using hc5)), if_neg (by simpa using hc5)] at hR
       refine AW.skip ?_
       (refine hK _ ?_; clear hK K; (skip))
       (refine AW.seq_k ?_; intro K hK)
       refine AW.region ?_
       (refine awP (op_fa_ptr rfl rfl rfl fl77_7 (by exact sz53) (by decide) rfl) ?_)
       (refine awR (op_load_ptr1 rfl rfl rfl rfl ag53 rfl rfl) ?_)
       (refine awP (op_len_ro rfl rfl Try.underlying53 (by exact .inr (.inl ⟨_, rfl, rfl⟩))) ?_)
       refine awP (op_move rfl rfl) ?_
       refine AWL.nil ?_
       (refine hK _ ?_; clear hK K; (simp only [nA, Nat.reduceBEq, Nat.reduceEqDiff, ↓reduceIte, Nat.reduceAdd, Nat.reduceSub]))
       refine AW.block ?_
       refine AW.loopI (fun (q : Nat × List Plate × Nat) => [(0, .ro (xs.map Container.av)), (3, .mp 0 1), (4, .mp 1 2), (16, .ro (xs.map Container.av)), (17, .v (.int .i64 (xs.length : Nat))), (18, .v (.int .i64 (i : Nat))), (55, .ro (c.pieces.map Piece.av)), (56, .v (.int .i64 (c.pieces.length : Nat))), (57, .v (.int .i64 (q.1 : Nat)))]) (fun q => ⟨[(1, .om 117 (sp.map spV)), (2, .om 118 (q.2.1.map plV)), (e, .own 77 [c.av]), (e + 1, .own 120 [[.v (.string c.flight.carrier), .v (.int .i64 c.flight.number), .v (.string c.flight.suffix), .v (.int .i64 c.flight.day), .v (.int .i64 c.position)]])], q.2.2⟩) (fun q => q.1 ≤ c.pieces.length ∧ q.2.1.length ≤ 60 * i + q.1 ∧ chkP (c.pieces.drop q.1) q.2.1 = chkP c.pieces pl) (fun q => c.pieces.length - q.1) (0, pl, _) ⟨by simp, by simp; omega, rfl⟩ ⟨rfl, rfl, rfl, rfl, rfl, rfl, rfl, rfl, rfl, trivial⟩ rfl ?_; rintro ⟨j, pl2, e2⟩ ρ hJ; simp only at hJ; simp only [updL]
       (refine AW.seq_k ?_; intro K hK)
       refine AW.region ?_
       refine awP (op_lss rfl rfl rfl) ?_
       refine AWL.nil ?_
       (refine hK _ ?_; clear hK K; (simp only [nA, Nat.reduceBEq, Nat.reduceEqDiff, ↓reduceIte, Nat.reduceAdd, Nat.reduceSub]))
       (refine AW.seq_k ?_; intro K hK)
       refine AW.cond rfl rfl rfl (fun hc => ?_) (fun hc => ?_)
       ·
        (try simp only [hcS] at hc); have hc9 := hc; have hjl : j < c.pieces.length := (by omega); obtain ⟨p, hpj⟩ : ∃ p, c.pieces[j]? = some p := ⟨c.pieces[j], List.getElem?_eq_getElem hjl⟩; have hP := hJ.2.2; rw [drop_cons hpj, chkP_cons] at hP; have hpi := piB_inv (hv.2.2.1 p (List.mem_of_getElem? hpj)); have hpr := pl_range hpi.1
        refine AW.skip ?_
        (refine hK _ ?_; clear hK K; (skip))
        (refine AW.seq_k ?_; intro K hK)
        refine AW.block ?_
        (refine AW.seq_k ?_; intro K hK)
        refine AW.region ?_
        (refine awP (op_ia_ro j rfl (.inl rfl) rfl Try.underlying53 rfl (get_of hpj) (by exact sz31) (Nat.le_of_ble_eq_true rfl)) ?_)
        (refine awR (op_load_rop rfl rfl ag31 sz31 (Nat.le_of_ble_eq_true rfl) (by decide) rfl) ?_)
        refine awJ (op_alloc rfl ze31 rfl) ?_; (simp only [nA, Nat.reduceBEq, Nat.reduceEqDiff, ↓reduceIte, Nat.reduceAdd, Nat.reduceSub])
        refine awJ (op_store rfl rfl rfl rfl rfl rfl sz31 rfl (Nat.le_of_ble_eq_true rfl) rfl) ?_; (simp only [nA, Nat.reduceBEq, Nat.reduceEqDiff, ↓reduceIte, Nat.reduceAdd, Nat.reduceSub])
        refine AWL.nil ?_
        (refine hK _ ?_; clear hK K; (skip))
        (refine AW.seq_k ?_; intro K hK)
        (refine AW.seq_k ?_; intro K hK)
        refine AW.region ?_
        refine awP (op_move rfl rfl) ?_
        (refine awP (op_fa_ptr rfl rfl rfl fl31_0 (by exact sz29) (by decide) rfl) ?_)
        (refine awR (op_load_ptr rfl rfl rfl rfl ag29 sz29 (Nat.le_of_ble_eq_true rfl) rfl) ?_)
        refine awR (op_lookup (b := decide (p.plate ∈ pl2)) (ks := pl2.map plV) (xs := [.int .i64 p.plate.lead, .int .i64 p.plate.airline, .int .i64 p.plate.serial]) rfl rfl rfl rfl Try.underlying118 zf4 (key29 hpr.1 hpr.2.1 hpr.2.2) plV_mem) ?_; (simp only [nA, Nat.reduceBEq, Nat.reduceEqDiff, ↓reduceIte, Nat.reduceAdd, Nat.reduceSub])
        refine AWL.nil ?_
        (refine hK _ ?_; clear hK K; (skip))
        refine AW.cond rfl rfl rfl (fun hc => ?_) (fun hc => ?_)
        ·
         (try simp only [hcS] at hc); have hc10 := hc; skip
         (refine AW.seq_k ?_; intro K hK)
         refine AW.region ?_
         refine awP (op_assign rfl rfl) ?_
         refine AWL.nil ?_
         (refine hK _ ?_; clear hK K; (simp only [nA, Nat.reduceBEq, Nat.reduceEqDiff, ↓reduceIte, Nat.reduceAdd, Nat.reduceSub]))
         skip
         refine AW.ret ?_; (simp only [thenE, inBlk, Nat.reduceEqDiff, ↓reduceIte]); rw [if_pos (by simpa using hc)] at hP; rw [← hP] at hR; rw [← hR]; exact RQ.of0 rfl (.tmp (Nat.le_of_ble_eq_true rfl) rfl rfl .nil)
        ·
         (try simp only [hcS] at hc); have hc10 := hc; rw [if_neg (by simpa using hc10)] at hP
         refine AW.skip ?_
         (refine hK _ ?_; clear hK K; (skip))
         refine AW.region ?_
         refine awP (op_move rfl rfl) ?_
         (refine awP (op_fa_ptr rfl rfl rfl fl31_0 (by exact sz29) (by decide) rfl) ?_)
         (refine awR (op_load_ptr rfl rfl rfl rfl ag29 sz29 (Nat.le_of_ble_eq_true rfl) rfl) ?_)
         refine awJ (op_mapUpdate (ks := pl2.map plV) (xs := [.int .i64 p.plate.lead, .int .i64 p.plate.airline, .int .i64 p.plate.serial]) rfl rfl rfl rfl rfl Try.underlying118 (key29 hpr.1 hpr.2.1 hpr.2.2) (by simp [maxLen]; omega)) ?_; (simp only [nA, Nat.reduceBEq, Nat.reduceEqDiff, ↓reduceIte, Nat.reduceAdd, Nat.reduceSub])
         refine AWL.nil ?_
         (simp only [thenE, inBlk, Nat.reduceEqDiff, ↓reduceIte])
         (refine hK _ ?_; clear hK K; (skip))
         refine AW.region ?_
         (refine awP (op_addi rfl rfl rfl (by omega)) ?_)
         refine awP (op_move rfl rfl) ?_
         refine AWL.gh (Gh.drop 4) ?_; (simp only [nA, Nat.reduceBEq, Nat.reduceEqDiff, ↓reduceIte, Nat.reduceAdd, Nat.reduceSub])
         refine AWL.nil ?_
         refine ⟨(j + 1, p.plate :: pl2, _), ⟨by dsimp only; omega, by simp; omega, hP⟩, by dsimp only; omega, ⟨rfl, rfl, rfl, rfl, rfl, rfl, rfl, rfl, rfl, trivial⟩, (by rfl), (by rfl)⟩
       ·
        (try simp only [hcS] at hc); have hc9 := hc; obtain rfl : j = c.pieces.length := (by omega); have hP := hJ.2.2; rw [List.drop_length, chkP_nil] at hP; rw [← hP] at hR; simp only at hR
        refine AW.exit ?_; (simp only [thenE, inBlk, Nat.reduceEqDiff, ↓reduceIte])
        clear hK K
        (refine hK _ ?_; clear hK K; (skip))
        refine AW.region ?_
        (refine awP (op_addi rfl rfl rfl (by omega)) ?_)
        refine awP (op_move rfl rfl) ?_
        refine AWL.gh (Gh.drop 2) ?_; (simp only [nA, Nat.reduceBEq, Nat.reduceEqDiff, ↓reduceIte, Nat.reduceAdd, Nat.reduceSub])
        refine AWL.nil ?_
        refine ⟨(i + 1, sp, pl2, _), ⟨by dsimp only; omega, by dsimp only; omega, by dsimp only; omega, by dsimp only; rw [prevN_succ hci]; exact hR⟩, by dsimp only; omega, ⟨rfl, rfl, rfl, rfl, rfl, rfl, trivial⟩, (by rfl), (by rfl)⟩
   ·
    (try simp only [hcS] at hc); have hc2 := hc; obtain rfl : i = xs.length := (by omega); have hR := hI.2.2.2; rw [List.drop_length] at hR; unfold chk at hR
    refine AW.exit ?_; (simp only [thenE, inBlk, Nat.reduceEqDiff, ↓reduceIte])
    clear hK K
    (refine hK _ ?_; clear hK K; (skip))
    (refine AW.seq_k ?_; intro K hK)
    refine AW.region ?_
    refine awP (op_assign rfl rfl) ?_
    refine AWL.nil ?_
    (refine hK _ ?_; clear hK K; (simp only [nA, Nat.reduceBEq, Nat.reduceEqDiff, ↓reduceIte, Nat.reduceAdd, Nat.reduceSub]))
    skip
    refine AW.ret ?_; rw [← hR]; exact RQ.of0 rfl (.tmp (Nat.le_of_ble_eq_true rfl) rfl rfl .nil)
def findL (xs : List Container) (p : Plate) : Int × Bool := match xs.find? fun c => hasB c.pieces p with
  | some c => (c.number, true)
  | none => (0, false)
theorem find_yes {xs : List Container} {p : Plate} {i : Nat} {c : Container} (hc : xs[i]? = some c) (h0 : ∀ k (h : k < xs.length), k < i → hasB xs[k].pieces p = false) (h1 : hasB c.pieces p = true) : findL xs p = (c.number, true) := by
  unfold findL
  obtain ⟨hi, rfl⟩ := List.getElem?_eq_some_iff.1 hc
  have e : xs = xs.take i ++ xs[i] :: xs.drop (i + 1) := by rw [← List.drop_eq_getElem_cons hi, List.take_append_drop]
  have : xs.find? (fun c => hasB c.pieces p) = some xs[i] := by
    conv => lhs; rw [e]
    rw [List.find?_append, List.find?_eq_none.2 (fun x hx => ?_), List.find?_cons_of_pos (by simpa using h1)]
    · rfl
    · obtain ⟨k, hk, rfl⟩ := List.getElem_of_mem hx
      simp at hk
      have := h0 k (by omega) (by omega)
      simpa using this
  rw [this]
theorem find_none {xs : List Container} {p : Plate} (h0 : ∀ k (h : k < xs.length), hasB xs[k].pieces p = false) : findL xs p = (0, false) := by
  unfold findL
  rw [List.find?_eq_none.2 (fun x hx => ?_)]
  obtain ⟨k, hk, rfl⟩ := List.getElem_of_mem hx
  simpa using h0 k hk
end Go.Proofs.Ytdnofpggdddimaa
namespace Go.Proofs.Ytdnofpggdddimaa
open Go.RowKit
set_option linter.unusedSimpArgs false
set_option linter.unusedVariables false
set_option maxRecDepth 100000
theorem C102 {c : UInt8} : Fn Try.prog 102 [] [.v (.int .u8 c.toNat)] [.v (.bool (upB c))] [] := by
  refine Spec.body Try.func102 rfl Try.ntmps102 (by simp) rfl ?_; intro S0 own0 v0 w0
  (refine AW.seq_k ?_; intro K hK)
  refine AW.region ?_
  refine awP (op_assign rfl rfl) ?_
  refine AWL.nil ?_
  (refine hK _ ?_; clear hK K; (simp only [nA, Nat.reduceBEq, Nat.reduceEqDiff, ↓reduceIte, Nat.reduceAdd, Nat.reduceSub]))
  (refine AW.seq_k ?_; intro K hK)
  refine AW.region (AWL.quiet ?_)
  refine aqP (op_move rfl rfl) ?_
  refine aqP (op_geq rfl rfl rfl) ?_
  refine aqP (op_move rfl rfl) ?_
  refine' aqAnd' [_, _] [6,7] rfl rfl rfl rfl rfl rfl rfl rfl rfl rfl rfl rfl (fun hb => ?_) ?_; rotate_left
  ·
   (try simp only [hcS] at hb)
   refine aqP (op_move rfl rfl) ?_
   refine aqP (op_leq rfl rfl rfl) ?_
   (refine aqSeg rfl rfl rfl ?_; repeat (first | exact fun _ _ => rfl | refine upd_out rfl ?_))
  (simp only [nA, Nat.reduceBEq, Nat.reduceEqDiff, ↓reduceIte, Nat.reduceAdd, Nat.reduceSub])
  refine aqP (op_assign rfl rfl) ?_
  refine AQ.nil ?_
  (refine hK _ ?_; clear hK K; (simp only [nA, Nat.reduceBEq, Nat.reduceEqDiff, ↓reduceIte, Nat.reduceAdd, Nat.reduceSub]))
  skip
  refine AW.ret ?_; exact RQ.of0 rfl (.tmp (Nat.le_of_ble_eq_true rfl) rfl rfl .nil)
theorem C103 {c : UInt8} : Fn Try.prog 103 [] [.v (.int .u8 c.toNat)] [.v (.bool (dgB c))] [] := by
  refine Spec.body Try.func103 rfl Try.ntmps103 (by simp) rfl ?_; intro S0 own0 v0 w0
  (refine AW.seq_k ?_; intro K hK)
  refine AW.region ?_
  refine awP (op_assign rfl rfl) ?_
  refine AWL.nil ?_
  (refine hK _ ?_; clear hK K; (simp only [nA, Nat.reduceBEq, Nat.reduceEqDiff, ↓reduceIte, Nat.reduceAdd, Nat.reduceSub]))
  (refine AW.seq_k ?_; intro K hK)
  refine AW.region (AWL.quiet ?_)
  refine aqP (op_move rfl rfl) ?_
  refine aqP (op_geq rfl rfl rfl) ?_
  refine aqP (op_move rfl rfl) ?_
  refine' aqAnd' [_, _] [6,7] rfl rfl rfl rfl rfl rfl rfl rfl rfl rfl rfl rfl (fun hb => ?_) ?_; rotate_left
  ·
   (try simp only [hcS] at hb)
   refine aqP (op_move rfl rfl) ?_
   refine aqP (op_leq rfl rfl rfl) ?_
   (refine aqSeg rfl rfl rfl ?_; repeat (first | exact fun _ _ => rfl | refine upd_out rfl ?_))
  (simp only [nA, Nat.reduceBEq, Nat.reduceEqDiff, ↓reduceIte, Nat.reduceAdd, Nat.reduceSub])
  refine aqP (op_assign rfl rfl) ?_
  refine AQ.nil ?_
  (refine hK _ ?_; clear hK K; (simp only [nA, Nat.reduceBEq, Nat.reduceEqDiff, ↓reduceIte, Nat.reduceAdd, Nat.reduceSub]))
  skip
  refine AW.ret ?_; exact RQ.of0 rfl (.tmp (Nat.le_of_ble_eq_true rfl) rfl rfl .nil)
def sufR (s : ByteArray) : Bool := (s.toList == (⟨#[]⟩ : ByteArray).toList) || (decide ((s.size : Int) = 1) && upB (chr s 0))
theorem C97r {s : ByteArray} : Fn Try.prog 97 [] [.v (.string s)] [.v (.bool (sufR s))] [] := by
  refine Spec.body Try.func97 rfl Try.ntmps97 (by simp) rfl ?_; intro S0 own0 v0 w0
  (refine AW.seq_k ?_; intro K hK)
  refine AW.region ?_
  refine awP (op_assign rfl rfl) ?_
  refine AWL.nil ?_
  (refine hK _ ?_; clear hK K; (simp only [nA, Nat.reduceBEq, Nat.reduceEqDiff, ↓reduceIte, Nat.reduceAdd, Nat.reduceSub]))
  (refine AW.seq_k ?_; intro K hK)
  refine AW.region (AWL.quiet ?_)
  refine aqP (op_move rfl rfl) ?_
  (refine aqP (op_seql rfl rfl rfl) ?_)
  refine aqP (op_move rfl rfl) ?_
  refine' aqOrN' [_, _, _, _, _, _, _, _] [6,7,8,9,10,11,12,13] rfl rfl rfl rfl rfl rfl rfl rfl rfl rfl rfl rfl (fun hb => ?_) ?_; rotate_left
  ·
   (try simp only [hcS] at hb)
   refine aqP (op_move rfl rfl) ?_
   (refine aqP (op_len_str rfl rfl Try.underlying9) ?_)
   (refine aqP (op_eql rfl rfl rfl) ?_)
   refine aqP (op_move rfl rfl) ?_
   refine' aqAnd' [_, _, _] [10,11,12] rfl rfl rfl rfl rfl rfl rfl rfl rfl rfl rfl rfl (fun hb => ?_) ?_; rotate_left
   ·
    (try simp only [hcS] at hb)
    refine aqP (op_move rfl rfl) ?_
    refine aqP (op_ix_str 0 rfl rfl rfl Try.underlying9 rfl (get_chr (s := s) (i := 0) (by omega))) ?_
    refine aqQ (op_callQ (b := true) rfl en102 (C102) (RL.cons (by exact View.same rfl) (RL.nil)) rfl) ?_; (simp only [nA, Nat.reduceBEq, Nat.reduceEqDiff, ↓reduceIte, Nat.reduceAdd, Nat.reduceSub])
    (refine aqSeg rfl rfl rfl ?_; repeat (first | exact fun _ _ => rfl | refine upd_out rfl ?_))
   (simp only [nA, Nat.reduceBEq, Nat.reduceEqDiff, ↓reduceIte, Nat.reduceAdd, Nat.reduceSub])
   (refine aqSeg rfl rfl rfl ?_; repeat (first | exact fun _ _ => rfl | refine upd_out rfl ?_ | refine era_out rfl ?_))
  (simp only [nA, Nat.reduceBEq, Nat.reduceEqDiff, ↓reduceIte, Nat.reduceAdd, Nat.reduceSub])
  refine aqP (op_assign rfl rfl) ?_
  refine AQ.nil ?_
  (refine hK _ ?_; clear hK K; (simp only [nA, Nat.reduceBEq, Nat.reduceEqDiff, ↓reduceIte, Nat.reduceAdd, Nat.reduceSub]))
  skip
  refine AW.ret ?_; exact RQ.of0 rfl (.tmp (Nat.le_of_ble_eq_true rfl) rfl rfl .nil)
def carR (s : ByteArray) : Bool := ((upB (chr s 0) || dgB (chr s 0)) && (upB (chr s 1) || dgB (chr s 1))) && (upB (chr s 0) || upB (chr s 1))
def car0 (s : ByteArray) : Bool := if (s.size : Int) ≠ 2 then false else carR s
theorem C96r {s : ByteArray} : Fn Try.prog 96 [] [.v (.string s)] [.v (.bool (car0 s))] [] := by
  refine Spec.body Try.func96 rfl Try.ntmps96 (by simp) rfl ?_; intro S0 own0 v0 w0
  (refine AW.seq_k ?_; intro K hK)
  refine AW.region ?_
  refine awP (op_assign rfl rfl) ?_
  refine AWL.nil ?_
  (refine hK _ ?_; clear hK K; (simp only [nA, Nat.reduceBEq, Nat.reduceEqDiff, ↓reduceIte, Nat.reduceAdd, Nat.reduceSub]))
  (refine AW.seq_k ?_; intro K hK)
  (refine AW.seq_k ?_; intro K hK)
  refine AW.region ?_
  refine awP (op_move rfl rfl) ?_
  (refine awP (op_len_str rfl rfl Try.underlying9) ?_)
  (refine awP (op_neq rfl rfl rfl) ?_)
  refine AWL.nil ?_
  (refine hK _ ?_; clear hK K; (simp only [nA, Nat.reduceBEq, Nat.reduceEqDiff, ↓reduceIte, Nat.reduceAdd, Nat.reduceSub]))
  refine AW.cond rfl rfl rfl (fun hc => ?_) (fun hc => ?_)
  ·
   (try simp only [hcS] at hc); have hc1 := hc; skip
   (refine AW.seq_k ?_; intro K hK)
   refine AW.region ?_
   refine awP (op_assign rfl rfl) ?_
   refine AWL.nil ?_
   (refine hK _ ?_; clear hK K; (simp only [nA, Nat.reduceBEq, Nat.reduceEqDiff, ↓reduceIte, Nat.reduceAdd, Nat.reduceSub]))
   skip
   refine AW.ret ?_; (simp only [thenE, inBlk, Nat.reduceEqDiff, ↓reduceIte]); rw [show car0 s = false by unfold car0; rw [if_pos (by omega)]]; exact RQ.of0 rfl (.tmp (Nat.le_of_ble_eq_true rfl) rfl rfl .nil)
  ·
   (try simp only [hcS] at hc); have hc1 := hc; skip
   refine AW.skip ?_
   (refine hK _ ?_; clear hK K; (skip))
   (refine AW.seq_k ?_; intro K hK)
   refine AW.quiet mix (by kernel_rfl) ?_
   refine aqP (op_move rfl rfl) ?_
   refine aqP (op_ix_str 0 rfl rfl rfl Try.underlying9 rfl (get_chr (s := s) (i := 0) (by omega))) ?_
   refine aqQ (op_callQ (b := true) rfl en102 (C102) (RL.cons (by exact View.same rfl) (RL.nil)) rfl) ?_; (simp only [nA, Nat.reduceBEq, Nat.reduceEqDiff, ↓reduceIte, Nat.reduceAdd, Nat.reduceSub])
   refine aqP (op_move rfl rfl) ?_
   refine aqP (op_ix_str 1 rfl rfl rfl Try.underlying9 rfl (get_chr (s := s) (i := 1) (by omega))) ?_
   refine aqQ (op_callQ (b := true) rfl en102 (C102) (RL.cons (by exact View.same rfl) (RL.nil)) rfl) ?_; (simp only [nA, Nat.reduceBEq, Nat.reduceEqDiff, ↓reduceIte, Nat.reduceAdd, Nat.reduceSub])
   refine aqP (op_assign rfl rfl) ?_
   refine aqP (op_assign rfl rfl) ?_
   refine AQ.nil ?_
   (refine hK _ ?_; clear hK K; (simp only [nA, Nat.reduceBEq, Nat.reduceEqDiff, ↓reduceIte, Nat.reduceAdd, Nat.reduceSub]))
   (refine AW.seq_k ?_; intro K hK)
   refine AW.region (AWL.quiet ?_)
   refine aqP (op_move rfl rfl) ?_
   refine aqP (op_move rfl rfl) ?_
   refine' aqOr' [_, _, _] [16,17,18] rfl rfl rfl rfl rfl rfl rfl rfl rfl rfl rfl rfl (fun hb => ?_) ?_; rotate_left
   ·
    (try simp only [hcS] at hb)
    refine aqP (op_move rfl rfl) ?_
    refine aqP (op_ix_str 0 rfl rfl rfl Try.underlying9 rfl (get_chr (s := s) (i := 0) (by omega))) ?_
    refine aqQ (op_callQ (b := true) rfl en103 (C103) (RL.cons (by exact View.same rfl) (RL.nil)) rfl) ?_; (simp only [nA, Nat.reduceBEq, Nat.reduceEqDiff, ↓reduceIte, Nat.reduceAdd, Nat.reduceSub])
    (refine aqSeg rfl rfl rfl ?_; repeat (first | exact fun _ _ => rfl | refine upd_out rfl ?_))
   (simp only [nA, Nat.reduceBEq, Nat.reduceEqDiff, ↓reduceIte, Nat.reduceAdd, Nat.reduceSub])
   refine aqP (op_move rfl rfl) ?_
   refine' aqAndN' [_, _, _, _, _, _] [21,22,23,24,25,26] rfl rfl rfl rfl rfl rfl rfl rfl rfl rfl rfl rfl (fun hb => ?_) ?_; rotate_left
   ·
    (try simp only [hcS] at hb)
    refine aqP (op_move rfl rfl) ?_
    refine aqP (op_move rfl rfl) ?_
    refine' aqOr' [_, _, _] [23,24,25] rfl rfl rfl rfl rfl rfl rfl rfl rfl rfl rfl rfl (fun hb => ?_) ?_; rotate_left
    ·
     (try simp only [hcS] at hb)
     refine aqP (op_move rfl rfl) ?_
     refine aqP (op_ix_str 1 rfl rfl rfl Try.underlying9 rfl (get_chr (s := s) (i := 1) (by omega))) ?_
     refine aqQ (op_callQ (b := true) rfl en103 (C103) (RL.cons (by exact View.same rfl) (RL.nil)) rfl) ?_; (simp only [nA, Nat.reduceBEq, Nat.reduceEqDiff, ↓reduceIte, Nat.reduceAdd, Nat.reduceSub])
     (refine aqSeg rfl rfl rfl ?_; repeat (first | exact fun _ _ => rfl | refine upd_out rfl ?_))
    (simp only [nA, Nat.reduceBEq, Nat.reduceEqDiff, ↓reduceIte, Nat.reduceAdd, Nat.reduceSub])
    (refine aqSeg rfl rfl rfl ?_; repeat (first | exact fun _ _ => rfl | refine upd_out rfl ?_ | refine era_out rfl ?_))
   (simp only [nA, Nat.reduceBEq, Nat.reduceEqDiff, ↓reduceIte, Nat.reduceAdd, Nat.reduceSub])
   refine aqP (op_move rfl rfl) ?_
   refine' aqAndN' [_, _, _, _] [29,30,31,32] rfl rfl rfl rfl rfl rfl rfl rfl rfl rfl rfl rfl (fun hb => ?_) ?_; rotate_left
   ·
    (try simp only [hcS] at hb)
    refine aqP (op_move rfl rfl) ?_
    refine aqP (op_move rfl rfl) ?_
    refine' aqOr' [_] [31] rfl rfl rfl rfl rfl rfl rfl rfl rfl rfl rfl rfl (fun hb => ?_) ?_; rotate_left
    ·
     (try simp only [hcS] at hb)
     refine aqP (op_move rfl rfl) ?_
     (refine aqSeg rfl rfl rfl ?_; repeat (first | exact fun _ _ => rfl | refine upd_out rfl ?_))
    (simp only [nA, Nat.reduceBEq, Nat.reduceEqDiff, ↓reduceIte, Nat.reduceAdd, Nat.reduceSub])
    (refine aqSeg rfl rfl rfl ?_; repeat (first | exact fun _ _ => rfl | refine upd_out rfl ?_ | refine era_out rfl ?_))
   (simp only [nA, Nat.reduceBEq, Nat.reduceEqDiff, ↓reduceIte, Nat.reduceAdd, Nat.reduceSub])
   refine aqP (op_assign rfl rfl) ?_
   refine AQ.nil ?_
   (refine hK _ ?_; clear hK K; (simp only [nA, Nat.reduceBEq, Nat.reduceEqDiff, ↓reduceIte, Nat.reduceAdd, Nat.reduceSub]))
   skip
   refine AW.ret ?_; rw [show car0 s = carR s by unfold car0; rw [if_neg (by omega)]]; exact RQ.of0 rfl (.tmp (Nat.le_of_ble_eq_true rfl) rfl rfl .nil)
theorem bytes_eq (s : ByteArray) : s.toList = s.data.toList := by
  exact ByteArray.toList_eq s
theorem suf_eq (s : ByteArray) : sufR s = lettersB s 0 1 := by
  unfold sufR lettersB
  rw [bytes_eq, bytes_eq]
  have hs := size_len s
  rcases hd : s.data.toList with _ | ⟨a, _ | ⟨b, t⟩⟩
  · rw [hd] at hs
    simp at hs
    simp [← hs]
  · rw [hd] at hs
    simp at hs
    simp [← hs, chr, hd]
  · rw [hd] at hs
    simp at hs
    have h1 : ¬ (s.size : Int) = 1 := by omega
    have h2 : ¬ (s.size : Int) ≤ 1 := by omega
    simp [h1, h2]
theorem car_eq (s : ByteArray) : car0 s = carB s := by
  unfold car0 carB
  have hs := size_len s
  by_cases h2 : s.size = 2
  · rw [if_neg (by omega)]
    rcases hd : s.data.toList with _ | ⟨a, _ | ⟨b, _ | ⟨d, t⟩⟩⟩ <;> rw [hd] at hs <;> simp at hs <;> try omega
    unfold carR chr
    rw [hd]
    simp [h2]
  · rw [if_pos (by omega)]
    simp [h2]
theorem C97 {s : ByteArray} : Fn Try.prog 97 [] [.v (.string s)] [.v (.bool (lettersB s 0 1))] [] := by
  rw [← suf_eq]; exact C97r
theorem C96 {s : ByteArray} : Fn Try.prog 96 [] [.v (.string s)] [.v (.bool (carB s))] [] := by
  rw [← car_eq]; exact C96r
theorem C85 {f : Flight} : Fn Try.prog 85 [] [.agg f.av] [.v (.bool (flB f))] [] := by
  refine Spec.body Try.func85 rfl Try.ntmps85 (by simp) rfl ?_; intro S0 own0 v0 w0
  (refine AW.seq_k ?_; intro K hK)
  refine AW.region ?_
  refine awJ (op_box rfl rfl rfl sz73 rfl) ?_; (simp only [nA, Nat.reduceBEq, Nat.reduceEqDiff, ↓reduceIte, Nat.reduceAdd, Nat.reduceSub])
  refine awP (op_assign rfl rfl) ?_
  refine AWL.nil ?_
  (refine hK _ ?_; clear hK K; (simp only [nA, Nat.reduceBEq, Nat.reduceEqDiff, ↓reduceIte, Nat.reduceAdd, Nat.reduceSub]))
  (refine AW.seq_k ?_; intro K hK)
  refine AW.region (AWL.quiet ?_)
  (refine aqP (op_fa_ptr rfl rfl rfl fl73_0 (by exact sz9) (by decide) rfl) ?_)
  (refine aqR (op_load_ptr1 rfl rfl rfl rfl ag9 rfl rfl) ?_)
  refine aqQ (op_callQ (b := true) rfl en96 (C96) (RL.cons (by exact View.same rfl) (RL.nil)) rfl) ?_; (simp only [nA, Nat.reduceBEq, Nat.reduceEqDiff, ↓reduceIte, Nat.reduceAdd, Nat.reduceSub])
  refine aqP (op_move rfl rfl) ?_
  refine' aqAnd' [_, _, _] [7,8,9] rfl rfl rfl rfl rfl rfl rfl rfl rfl rfl rfl rfl (fun hb => ?_) ?_; rotate_left
  ·
   (try simp only [hcS] at hb)
   (refine aqP (op_fa_ptr rfl rfl rfl fl73_1 (by exact sz3) (by decide) rfl) ?_)
   (refine aqR (op_load_ptr1 rfl rfl rfl rfl ag3 rfl rfl) ?_)
   refine aqP (op_geq rfl rfl rfl) ?_
   (refine aqSeg rfl rfl rfl ?_; repeat (first | exact fun _ _ => rfl | refine upd_out rfl ?_))
  (simp only [nA, Nat.reduceBEq, Nat.reduceEqDiff, ↓reduceIte, Nat.reduceAdd, Nat.reduceSub])
  refine aqP (op_move rfl rfl) ?_
  refine' aqAnd' [_, _, _] [12,13,14] rfl rfl rfl rfl rfl rfl rfl rfl rfl rfl rfl rfl (fun hb => ?_) ?_; rotate_left
  ·
   (try simp only [hcS] at hb)
   (refine aqP (op_fa_ptr rfl rfl rfl fl73_1 (by exact sz3) (by decide) rfl) ?_)
   (refine aqR (op_load_ptr1 rfl rfl rfl rfl ag3 rfl rfl) ?_)
   refine aqP (op_leq rfl rfl rfl) ?_
   (refine aqSeg rfl rfl rfl ?_; repeat (first | exact fun _ _ => rfl | refine upd_out rfl ?_))
  (simp only [nA, Nat.reduceBEq, Nat.reduceEqDiff, ↓reduceIte, Nat.reduceAdd, Nat.reduceSub])
  refine aqP (op_move rfl rfl) ?_
  refine' aqAnd' [_, _, _] [17,18,19] rfl rfl rfl rfl rfl rfl rfl rfl rfl rfl rfl rfl (fun hb => ?_) ?_; rotate_left
  ·
   (try simp only [hcS] at hb)
   (refine aqP (op_fa_ptr rfl rfl rfl fl73_2 (by exact sz9) (by decide) rfl) ?_)
   (refine aqR (op_load_ptr1 rfl rfl rfl rfl ag9 rfl rfl) ?_)
   refine aqQ (op_callQ (b := true) rfl en97 (C97) (RL.cons (by exact View.same rfl) (RL.nil)) rfl) ?_; (simp only [nA, Nat.reduceBEq, Nat.reduceEqDiff, ↓reduceIte, Nat.reduceAdd, Nat.reduceSub])
   (refine aqSeg rfl rfl rfl ?_; repeat (first | exact fun _ _ => rfl | refine upd_out rfl ?_))
  (simp only [nA, Nat.reduceBEq, Nat.reduceEqDiff, ↓reduceIte, Nat.reduceAdd, Nat.reduceSub])
  refine aqP (op_move rfl rfl) ?_
  refine' aqAnd' [_, _, _] [22,23,24] rfl rfl rfl rfl rfl rfl rfl rfl rfl rfl rfl rfl (fun hb => ?_) ?_; rotate_left
  ·
   (try simp only [hcS] at hb)
   (refine aqP (op_fa_ptr rfl rfl rfl fl73_3 (by exact sz3) (by decide) rfl) ?_)
   (refine aqR (op_load_ptr1 rfl rfl rfl rfl ag3 rfl rfl) ?_)
   refine aqP (op_geq rfl rfl rfl) ?_
   (refine aqSeg rfl rfl rfl ?_; repeat (first | exact fun _ _ => rfl | refine upd_out rfl ?_))
  (simp only [nA, Nat.reduceBEq, Nat.reduceEqDiff, ↓reduceIte, Nat.reduceAdd, Nat.reduceSub])
  refine aqP (op_move rfl rfl) ?_
  refine' aqAnd' [_, _, _] [27,28,29] rfl rfl rfl rfl rfl rfl rfl rfl rfl rfl rfl rfl (fun hb => ?_) ?_; rotate_left
  ·
   (try simp only [hcS] at hb)
   (refine aqP (op_fa_ptr rfl rfl rfl fl73_3 (by exact sz3) (by decide) rfl) ?_)
   (refine aqR (op_load_ptr1 rfl rfl rfl rfl ag3 rfl rfl) ?_)
   refine aqP (op_leq rfl rfl rfl) ?_
   (refine aqSeg rfl rfl rfl ?_; repeat (first | exact fun _ _ => rfl | refine upd_out rfl ?_))
  (simp only [nA, Nat.reduceBEq, Nat.reduceEqDiff, ↓reduceIte, Nat.reduceAdd, Nat.reduceSub])
  refine aqP (op_assign rfl rfl) ?_
  refine AQ.nil ?_
  (refine hK _ ?_; clear hK K; (simp only [nA, Nat.reduceBEq, Nat.reduceEqDiff, ↓reduceIte, Nat.reduceAdd, Nat.reduceSub]))
  skip
  refine AW.ret ?_; exact RQ.of0 rfl (.tmp (Nat.le_of_ble_eq_true rfl) rfl rfl .nil)
theorem C86 {a b : Int} : Fn Try.prog 86 [] [.v (.int .i64 a), .v (.int .i64 b)] [.v (.int .i64 (cmpI a b))] [] := by
  refine Spec.body Try.func86 rfl Try.ntmps86 (by simp) rfl ?_; intro S0 own0 v0 w0
  (refine AW.seq_k ?_; intro K hK)
  refine AW.region ?_
  refine awP (op_assign rfl rfl) ?_
  refine AWL.nil ?_
  (refine hK _ ?_; clear hK K; (simp only [nA, Nat.reduceBEq, Nat.reduceEqDiff, ↓reduceIte, Nat.reduceAdd, Nat.reduceSub]))
  (refine AW.seq_k ?_; intro K hK)
  (refine AW.seq_k ?_; intro K hK)
  refine AW.region ?_
  refine awP (op_move rfl rfl) ?_
  refine awP (op_move rfl rfl) ?_
  refine awP (op_lss rfl rfl rfl) ?_
  refine AWL.nil ?_
  (refine hK _ ?_; clear hK K; (simp only [nA, Nat.reduceBEq, Nat.reduceEqDiff, ↓reduceIte, Nat.reduceAdd, Nat.reduceSub]))
  refine AW.cond rfl rfl rfl (fun hc => ?_) (fun hc => ?_)
  ·
   (try simp only [hcS] at hc); have hc1 := hc; skip
   (refine AW.seq_k ?_; intro K hK)
   refine AW.region ?_
   refine awP (op_assign rfl rfl) ?_
   refine AWL.nil ?_
   (refine hK _ ?_; clear hK K; (simp only [nA, Nat.reduceBEq, Nat.reduceEqDiff, ↓reduceIte, Nat.reduceAdd, Nat.reduceSub]))
   skip
   refine AW.ret ?_; (simp only [thenE, inBlk, Nat.reduceEqDiff, ↓reduceIte]); rw [show cmpI a b = -1 by unfold cmpI; rw [if_pos (by omega)]]; exact RQ.of0 rfl (.tmp (Nat.le_of_ble_eq_true rfl) rfl rfl .nil)
  ·
   (try simp only [hcS] at hc); have hc1 := hc; skip
   refine AW.skip ?_
   (refine hK _ ?_; clear hK K; (skip))
   (refine AW.seq_k ?_; intro K hK)
   (refine AW.seq_k ?_; intro K hK)
   refine AW.region ?_
   refine awP (op_move rfl rfl) ?_
   refine awP (op_move rfl rfl) ?_
   refine awP (op_gtr rfl rfl rfl) ?_
   refine AWL.nil ?_
   (refine hK _ ?_; clear hK K; (simp only [nA, Nat.reduceBEq, Nat.reduceEqDiff, ↓reduceIte, Nat.reduceAdd, Nat.reduceSub]))
   refine AW.cond rfl rfl rfl (fun hc => ?_) (fun hc => ?_)
   ·
    (try simp only [hcS] at hc); have hc2 := hc; skip
    (refine AW.seq_k ?_; intro K hK)
    refine AW.region ?_
    refine awP (op_assign rfl rfl) ?_
    refine AWL.nil ?_
    (refine hK _ ?_; clear hK K; (simp only [nA, Nat.reduceBEq, Nat.reduceEqDiff, ↓reduceIte, Nat.reduceAdd, Nat.reduceSub]))
    skip
    refine AW.ret ?_; (simp only [thenE, inBlk, Nat.reduceEqDiff, ↓reduceIte]); rw [show cmpI a b = 1 by unfold cmpI; rw [if_neg (by omega), if_pos (by omega)]]; exact RQ.of0 rfl (.tmp (Nat.le_of_ble_eq_true rfl) rfl rfl .nil)
   ·
    (try simp only [hcS] at hc); have hc2 := hc; skip
    refine AW.skip ?_
    (refine hK _ ?_; clear hK K; (skip))
    (refine AW.seq_k ?_; intro K hK)
    refine AW.region ?_
    refine awP (op_assign rfl rfl) ?_
    refine AWL.nil ?_
    (refine hK _ ?_; clear hK K; (simp only [nA, Nat.reduceBEq, Nat.reduceEqDiff, ↓reduceIte, Nat.reduceAdd, Nat.reduceSub]))
    skip
    refine AW.ret ?_; rw [show cmpI a b = 0 by unfold cmpI; rw [if_neg (by omega), if_neg (by omega)]]; exact RQ.of0 rfl (.tmp (Nat.le_of_ble_eq_true rfl) rfl rfl .nil)
theorem cmpP_1 {p q : Plate} (h : cmpI p.lead q.lead ≠ 0) : cmpP p q = cmpI p.lead q.lead := by unfold cmpP orL; simp [h]
theorem cmpP_2 {p q : Plate} (h0 : cmpI p.lead q.lead = 0) (h : cmpI p.airline q.airline ≠ 0) : cmpP p q = cmpI p.airline q.airline := by unfold cmpP orL; simp [h, h0]
theorem cmpP_3 {p q : Plate} (h0 : cmpI p.lead q.lead = 0) (h1 : cmpI p.airline q.airline = 0) : cmpP p q = cmpI p.serial q.serial := by
  unfold cmpP orL
  by_cases h : cmpI p.serial q.serial = 0 <;> simp [h, h0, h1]
theorem C68 {p q : Plate} : Fn Try.prog 68 [] [.agg p.av, .agg q.av] [.v (.int .i64 (cmpP p q))] [] := by
  refine Spec.body Try.func68 rfl Try.ntmps68 (by simp) rfl ?_; intro S0 own0 v0 w0
  (refine AW.seq_k ?_; intro K hK)
  refine AW.region ?_
  refine awJ (op_box rfl rfl rfl sz29 rfl) ?_; (simp only [nA, Nat.reduceBEq, Nat.reduceEqDiff, ↓reduceIte, Nat.reduceAdd, Nat.reduceSub])
  refine awJ (op_box rfl rfl rfl sz29 rfl) ?_; (simp only [nA, Nat.reduceBEq, Nat.reduceEqDiff, ↓reduceIte, Nat.reduceAdd, Nat.reduceSub])
  refine awP (op_assign rfl rfl) ?_
  refine AWL.nil ?_
  (refine hK _ ?_; clear hK K; (simp only [nA, Nat.reduceBEq, Nat.reduceEqDiff, ↓reduceIte, Nat.reduceAdd, Nat.reduceSub]))
  (refine AW.seq_k ?_; intro K hK)
  (refine AW.seq_k ?_; intro K hK)
  refine AW.region ?_
  (refine awP (op_fa_ptr rfl rfl rfl fl29_0 (by exact sz3) (by decide) rfl) ?_)
  (refine awR (op_load_ptr1 rfl rfl rfl rfl ag3 rfl rfl) ?_)
  (refine awP (op_fa_ptr rfl rfl rfl fl29_0 (by exact sz3) (by decide) rfl) ?_)
  (refine awR (op_load_ptr1 rfl rfl rfl rfl ag3 rfl rfl) ?_)
  refine awJ (OpQ.j (op_callQ (b := true) rfl en86 (C86 (a := p.lead) (b := q.lead)) (RL.cons (by exact View.same rfl) (RL.cons (by exact View.same rfl) (RL.nil))) rfl)) ?_; (simp only [nA, Nat.reduceBEq, Nat.reduceEqDiff, ↓reduceIte, Nat.reduceAdd, Nat.reduceSub])
  refine awP (op_assign rfl rfl) ?_
  refine AWL.nil ?_
  (refine hK _ ?_; clear hK K; (simp only [nA, Nat.reduceBEq, Nat.reduceEqDiff, ↓reduceIte, Nat.reduceAdd, Nat.reduceSub]))
  (refine AW.seq_k ?_; intro K hK)
  refine AW.region ?_
  refine awP (op_move rfl rfl) ?_
  (refine awP (op_neq rfl rfl rfl) ?_)
  refine AWL.nil ?_
  (refine hK _ ?_; clear hK K; (simp only [nA, Nat.reduceBEq, Nat.reduceEqDiff, ↓reduceIte, Nat.reduceAdd, Nat.reduceSub]))
  refine AW.cond rfl rfl rfl (fun hc => ?_) (fun hc => ?_)
  ·
   (try simp only [hcS] at hc); have hc1 := hc; skip
   (refine AW.seq_k ?_; intro K hK)
   refine AW.region ?_
   refine awP (op_move rfl rfl) ?_
   refine awP (op_assign rfl rfl) ?_
   refine AWL.nil ?_
   (refine hK _ ?_; clear hK K; (simp only [nA, Nat.reduceBEq, Nat.reduceEqDiff, ↓reduceIte, Nat.reduceAdd, Nat.reduceSub]))
   skip
   refine AW.ret ?_; (simp only [thenE, inBlk, Nat.reduceEqDiff, ↓reduceIte]); rw [cmpP_1 hc1]; exact RQ.of0 rfl (.tmp (Nat.le_of_ble_eq_true rfl) rfl rfl .nil)
  ·
   (try simp only [hcS] at hc); have hc1 := hc; skip
   refine AW.skip ?_
   (refine hK _ ?_; clear hK K; (skip))
   (refine AW.seq_k ?_; intro K hK)
   (refine AW.seq_k ?_; intro K hK)
   refine AW.region ?_
   (refine awP (op_fa_ptr rfl rfl rfl fl29_1 (by exact sz3) (by decide) rfl) ?_)
   (refine awR (op_load_ptr1 rfl rfl rfl rfl ag3 rfl rfl) ?_)
   (refine awP (op_fa_ptr rfl rfl rfl fl29_1 (by exact sz3) (by decide) rfl) ?_)
   (refine awR (op_load_ptr1 rfl rfl rfl rfl ag3 rfl rfl) ?_)
   refine awJ (OpQ.j (op_callQ (b := true) rfl en86 (C86 (a := p.airline) (b := q.airline)) (RL.cons (by exact View.same rfl) (RL.cons (by exact View.same rfl) (RL.nil))) rfl)) ?_; (simp only [nA, Nat.reduceBEq, Nat.reduceEqDiff, ↓reduceIte, Nat.reduceAdd, Nat.reduceSub])
   refine awP (op_assign rfl rfl) ?_
   refine AWL.nil ?_
   (refine hK _ ?_; clear hK K; (simp only [nA, Nat.reduceBEq, Nat.reduceEqDiff, ↓reduceIte, Nat.reduceAdd, Nat.reduceSub]))
   (refine AW.seq_k ?_; intro K hK)
   refine AW.region ?_
   refine awP (op_move rfl rfl) ?_
   (refine awP (op_neq rfl rfl rfl) ?_)
   refine AWL.nil ?_
   (refine hK _ ?_; clear hK K; (simp only [nA, Nat.reduceBEq, Nat.reduceEqDiff, ↓reduceIte, Nat.reduceAdd, Nat.reduceSub]))
   refine AW.cond rfl rfl rfl (fun hc => ?_) (fun hc => ?_)
   ·
    (try simp only [hcS] at hc); have hc2 := hc; skip
    (refine AW.seq_k ?_; intro K hK)
    refine AW.region ?_
    refine awP (op_move rfl rfl) ?_
    refine awP (op_assign rfl rfl) ?_
    refine AWL.nil ?_
    (refine hK _ ?_; clear hK K; (simp only [nA, Nat.reduceBEq, Nat.reduceEqDiff, ↓reduceIte, Nat.reduceAdd, Nat.reduceSub]))
    skip
    refine AW.ret ?_; (simp only [thenE, inBlk, Nat.reduceEqDiff, ↓reduceIte]); rw [cmpP_2 hc1 hc2]; exact RQ.of0 rfl (.tmp (Nat.le_of_ble_eq_true rfl) rfl rfl .nil)
   ·
    (try simp only [hcS] at hc); have hc2 := hc; skip
    refine AW.skip ?_
    (refine hK _ ?_; clear hK K; (skip))
    (refine AW.seq_k ?_; intro K hK)
    refine AW.region ?_
    (refine awP (op_fa_ptr rfl rfl rfl fl29_2 (by exact sz3) (by decide) rfl) ?_)
    (refine awR (op_load_ptr1 rfl rfl rfl rfl ag3 rfl rfl) ?_)
    (refine awP (op_fa_ptr rfl rfl rfl fl29_2 (by exact sz3) (by decide) rfl) ?_)
    (refine awR (op_load_ptr1 rfl rfl rfl rfl ag3 rfl rfl) ?_)
    refine awJ (OpQ.j (op_callQ (b := true) rfl en86 (C86 (a := p.serial) (b := q.serial)) (RL.cons (by exact View.same rfl) (RL.cons (by exact View.same rfl) (RL.nil))) rfl)) ?_; (simp only [nA, Nat.reduceBEq, Nat.reduceEqDiff, ↓reduceIte, Nat.reduceAdd, Nat.reduceSub])
    refine awP (op_assign rfl rfl) ?_
    refine AWL.nil ?_
    (refine hK _ ?_; clear hK K; (simp only [nA, Nat.reduceBEq, Nat.reduceEqDiff, ↓reduceIte, Nat.reduceAdd, Nat.reduceSub]))
    skip
    refine AW.ret ?_; rw [cmpP_3 hc1 hc2]; exact RQ.of0 rfl (.tmp (Nat.le_of_ble_eq_true rfl) rfl rfl .nil)
def plR (p : Plate) : Bool := ((((decide (p.lead ≥ 0) && decide (p.lead ≤ 9)) && decide (p.airline ≥ 1)) && decide (p.airline ≤ 999)) && decide (p.serial ≥ 0)) && decide (p.serial ≤ 999999)
theorem plR_eq (p : Plate) : plR p = plB p := by
  unfold plR plB
  rw [show decide (p.serial ≤ 999999) = decide (p.serial < 1000000) from decide_eq_decide.2 (by omega)]
theorem C73r {p : Plate} : Fn Try.prog 73 [] [.agg p.av] [.v (.bool (plR p))] [] := by
  refine Spec.body Try.func73 rfl Try.ntmps73 (by simp) rfl ?_; intro S0 own0 v0 w0
  (refine AW.seq_k ?_; intro K hK)
  refine AW.region ?_
  refine awJ (op_box rfl rfl rfl sz29 rfl) ?_; (simp only [nA, Nat.reduceBEq, Nat.reduceEqDiff, ↓reduceIte, Nat.reduceAdd, Nat.reduceSub])
  refine awP (op_assign rfl rfl) ?_
  refine AWL.nil ?_
  (refine hK _ ?_; clear hK K; (simp only [nA, Nat.reduceBEq, Nat.reduceEqDiff, ↓reduceIte, Nat.reduceAdd, Nat.reduceSub]))
  (refine AW.seq_k ?_; intro K hK)
  refine AW.region (AWL.quiet ?_)
  (refine aqP (op_fa_ptr rfl rfl rfl fl29_0 (by exact sz3) (by decide) rfl) ?_)
  (refine aqR (op_load_ptr1 rfl rfl rfl rfl ag3 rfl rfl) ?_)
  refine aqP (op_geq rfl rfl rfl) ?_
  refine aqP (op_move rfl rfl) ?_
  refine' aqAnd' [_, _, _] [7,8,9] rfl rfl rfl rfl rfl rfl rfl rfl rfl rfl rfl rfl (fun hb => ?_) ?_; rotate_left
  ·
   (try simp only [hcS] at hb)
   (refine aqP (op_fa_ptr rfl rfl rfl fl29_0 (by exact sz3) (by decide) rfl) ?_)
   (refine aqR (op_load_ptr1 rfl rfl rfl rfl ag3 rfl rfl) ?_)
   refine aqP (op_leq rfl rfl rfl) ?_
   (refine aqSeg rfl rfl rfl ?_; repeat (first | exact fun _ _ => rfl | refine upd_out rfl ?_))
  (simp only [nA, Nat.reduceBEq, Nat.reduceEqDiff, ↓reduceIte, Nat.reduceAdd, Nat.reduceSub])
  refine aqP (op_move rfl rfl) ?_
  refine' aqAnd' [_, _, _] [12,13,14] rfl rfl rfl rfl rfl rfl rfl rfl rfl rfl rfl rfl (fun hb => ?_) ?_; rotate_left
  ·
   (try simp only [hcS] at hb)
   (refine aqP (op_fa_ptr rfl rfl rfl fl29_1 (by exact sz3) (by decide) rfl) ?_)
   (refine aqR (op_load_ptr1 rfl rfl rfl rfl ag3 rfl rfl) ?_)
   refine aqP (op_geq rfl rfl rfl) ?_
   (refine aqSeg rfl rfl rfl ?_; repeat (first | exact fun _ _ => rfl | refine upd_out rfl ?_))
  (simp only [nA, Nat.reduceBEq, Nat.reduceEqDiff, ↓reduceIte, Nat.reduceAdd, Nat.reduceSub])
  refine aqP (op_move rfl rfl) ?_
  refine' aqAnd' [_, _, _] [17,18,19] rfl rfl rfl rfl rfl rfl rfl rfl rfl rfl rfl rfl (fun hb => ?_) ?_; rotate_left
  ·
   (try simp only [hcS] at hb)
   (refine aqP (op_fa_ptr rfl rfl rfl fl29_1 (by exact sz3) (by decide) rfl) ?_)
   (refine aqR (op_load_ptr1 rfl rfl rfl rfl ag3 rfl rfl) ?_)
   refine aqP (op_leq rfl rfl rfl) ?_
   (refine aqSeg rfl rfl rfl ?_; repeat (first | exact fun _ _ => rfl | refine upd_out rfl ?_))
  (simp only [nA, Nat.reduceBEq, Nat.reduceEqDiff, ↓reduceIte, Nat.reduceAdd, Nat.reduceSub])
  refine aqP (op_move rfl rfl) ?_
  refine' aqAnd' [_, _, _] [22,23,24] rfl rfl rfl rfl rfl rfl rfl rfl rfl rfl rfl rfl (fun hb => ?_) ?_; rotate_left
  ·
   (try simp only [hcS] at hb)
   (refine aqP (op_fa_ptr rfl rfl rfl fl29_2 (by exact sz3) (by decide) rfl) ?_)
   (refine aqR (op_load_ptr1 rfl rfl rfl rfl ag3 rfl rfl) ?_)
   refine aqP (op_geq rfl rfl rfl) ?_
   (refine aqSeg rfl rfl rfl ?_; repeat (first | exact fun _ _ => rfl | refine upd_out rfl ?_))
  (simp only [nA, Nat.reduceBEq, Nat.reduceEqDiff, ↓reduceIte, Nat.reduceAdd, Nat.reduceSub])
  refine aqP (op_move rfl rfl) ?_
  refine' aqAnd' [_, _, _] [27,28,29] rfl rfl rfl rfl rfl rfl rfl rfl rfl rfl rfl rfl (fun hb => ?_) ?_; rotate_left
  ·
   (try simp only [hcS] at hb)
   (refine aqP (op_fa_ptr rfl rfl rfl fl29_2 (by exact sz3) (by decide) rfl) ?_)
   (refine aqR (op_load_ptr1 rfl rfl rfl rfl ag3 rfl rfl) ?_)
   refine aqP (op_leq rfl rfl rfl) ?_
   (refine aqSeg rfl rfl rfl ?_; repeat (first | exact fun _ _ => rfl | refine upd_out rfl ?_))
  (simp only [nA, Nat.reduceBEq, Nat.reduceEqDiff, ↓reduceIte, Nat.reduceAdd, Nat.reduceSub])
  refine aqP (op_assign rfl rfl) ?_
  refine AQ.nil ?_
  (refine hK _ ?_; clear hK K; (simp only [nA, Nat.reduceBEq, Nat.reduceEqDiff, ↓reduceIte, Nat.reduceAdd, Nat.reduceSub]))
  skip
  refine AW.ret ?_; exact RQ.of0 rfl (.tmp (Nat.le_of_ble_eq_true rfl) rfl rfl .nil)
theorem C73 {p : Plate} : Fn Try.prog 73 [] [.agg p.av] [.v (.bool (plB p))] [] := by
  rw [← plR_eq]; exact C73r
def piR (p : Piece) : Bool := (((plB p.plate && decide (p.weight ≥ 1)) && decide (p.weight ≤ 999)) && decide (p.category ≥ 0)) && decide (p.category ≤ 4)
theorem piR_eq (p : Piece) : piR p = piB p := by unfold piR piB inB; simp only [Bool.and_assoc]
theorem C55r {p : Piece} : Fn Try.prog 55 [] [.agg p.av] [.v (.bool (piR p))] [] := by
  refine Spec.body Try.func55 rfl Try.ntmps55 (by simp) rfl ?_; intro S0 own0 v0 w0
  (refine AW.seq_k ?_; intro K hK)
  refine AW.region ?_
  refine awJ (op_box rfl rfl rfl sz31 rfl) ?_; (simp only [nA, Nat.reduceBEq, Nat.reduceEqDiff, ↓reduceIte, Nat.reduceAdd, Nat.reduceSub])
  refine awP (op_assign rfl rfl) ?_
  refine AWL.nil ?_
  (refine hK _ ?_; clear hK K; (simp only [nA, Nat.reduceBEq, Nat.reduceEqDiff, ↓reduceIte, Nat.reduceAdd, Nat.reduceSub]))
  (refine AW.seq_k ?_; intro K hK)
  refine AW.region (AWL.quiet ?_)
  (refine aqP (op_fa_ptr rfl rfl rfl fl31_0 (by exact sz29) (by decide) rfl) ?_)
  (refine aqR (op_load_ptr rfl rfl rfl rfl ag29 sz29 (Nat.le_of_ble_eq_true rfl) rfl) ?_)
  refine aqQ (op_callQ (b := true) rfl en73 (C73 (p := p.plate)) (RL.cons (by exact View.same rfl) (RL.nil)) rfl) ?_; (simp only [nA, Nat.reduceBEq, Nat.reduceEqDiff, ↓reduceIte, Nat.reduceAdd, Nat.reduceSub])
  refine aqP (op_move rfl rfl) ?_
  refine' aqAnd' [_, _, _] [7,8,9] rfl rfl rfl rfl rfl rfl rfl rfl rfl rfl rfl rfl (fun hb => ?_) ?_; rotate_left
  ·
   (try simp only [hcS] at hb)
   (refine aqP (op_fa_ptr rfl rfl rfl fl31_1 (by exact sz3) (by decide) rfl) ?_)
   (refine aqR (op_load_ptr1 rfl rfl rfl rfl ag3 rfl rfl) ?_)
   refine aqP (op_geq rfl rfl rfl) ?_
   (refine aqSeg rfl rfl rfl ?_; repeat (first | exact fun _ _ => rfl | refine upd_out rfl ?_))
  (simp only [nA, Nat.reduceBEq, Nat.reduceEqDiff, ↓reduceIte, Nat.reduceAdd, Nat.reduceSub])
  refine aqP (op_move rfl rfl) ?_
  refine' aqAnd' [_, _, _] [12,13,14] rfl rfl rfl rfl rfl rfl rfl rfl rfl rfl rfl rfl (fun hb => ?_) ?_; rotate_left
  ·
   (try simp only [hcS] at hb)
   (refine aqP (op_fa_ptr rfl rfl rfl fl31_1 (by exact sz3) (by decide) rfl) ?_)
   (refine aqR (op_load_ptr1 rfl rfl rfl rfl ag3 rfl rfl) ?_)
   refine aqP (op_leq rfl rfl rfl) ?_
   (refine aqSeg rfl rfl rfl ?_; repeat (first | exact fun _ _ => rfl | refine upd_out rfl ?_))
  (simp only [nA, Nat.reduceBEq, Nat.reduceEqDiff, ↓reduceIte, Nat.reduceAdd, Nat.reduceSub])
  refine aqP (op_move rfl rfl) ?_
  refine' aqAnd' [_, _, _] [17,18,19] rfl rfl rfl rfl rfl rfl rfl rfl rfl rfl rfl rfl (fun hb => ?_) ?_; rotate_left
  ·
   (try simp only [hcS] at hb)
   (refine aqP (op_fa_ptr rfl rfl rfl fl31_2 (by exact sz3) (by decide) rfl) ?_)
   (refine aqR (op_load_ptr1 rfl rfl rfl rfl ag3 rfl rfl) ?_)
   refine aqP (op_geq rfl rfl rfl) ?_
   (refine aqSeg rfl rfl rfl ?_; repeat (first | exact fun _ _ => rfl | refine upd_out rfl ?_))
  (simp only [nA, Nat.reduceBEq, Nat.reduceEqDiff, ↓reduceIte, Nat.reduceAdd, Nat.reduceSub])
  refine aqP (op_move rfl rfl) ?_
  refine' aqAnd' [_, _, _] [22,23,24] rfl rfl rfl rfl rfl rfl rfl rfl rfl rfl rfl rfl (fun hb => ?_) ?_; rotate_left
  ·
   (try simp only [hcS] at hb)
   (refine aqP (op_fa_ptr rfl rfl rfl fl31_2 (by exact sz3) (by decide) rfl) ?_)
   (refine aqR (op_load_ptr1 rfl rfl rfl rfl ag3 rfl rfl) ?_)
   refine aqP (op_leq rfl rfl rfl) ?_
   (refine aqSeg rfl rfl rfl ?_; repeat (first | exact fun _ _ => rfl | refine upd_out rfl ?_))
  (simp only [nA, Nat.reduceBEq, Nat.reduceEqDiff, ↓reduceIte, Nat.reduceAdd, Nat.reduceSub])
  refine aqP (op_assign rfl rfl) ?_
  refine AQ.nil ?_
  (refine hK _ ?_; clear hK K; (simp only [nA, Nat.reduceBEq, Nat.reduceEqDiff, ↓reduceIte, Nat.reduceAdd, Nat.reduceSub]))
  skip
  refine AW.ret ?_; exact RQ.of0 rfl (.tmp (Nat.le_of_ble_eq_true rfl) rfl rfl .nil)
theorem C55 {p : Piece} : Fn Try.prog 55 [] [.agg p.av] [.v (.bool (piB p))] [] := by
  rw [← piR_eq]; exact C55r
def coR (c : Container) : Bool := (((((((((((decide (c.number ≥ 1) && decide (c.number ≤ 999)) && flB c.flight) && decide (c.categories ≥ 0)) && decide (c.categories < 32)) && decide (c.limit ≥ 0)) && decide (c.limit ≤ 20000)) && decide (c.most ≥ 0)) && decide (c.most ≤ 60)) && decide (c.position ≥ 0)) && decide (c.position ≤ 24)) && decide (c.arm ≥ -50)) && decide (c.arm ≤ 50)
theorem coR_eq (c : Container) : coR c = coB c := by
  unfold coR coB inB
  rw [show decide (c.categories < 32) = decide (c.categories ≤ 31) from decide_eq_decide.2 (by omega)]
  simp only [Bool.and_assoc]
theorem C87r {c : Container} : Fn Try.prog 87 [] [.agg c.av] [.v (.bool (coR c))] [] := by
  refine Spec.body Try.func87 rfl Try.ntmps87 (by simp) rfl ?_; intro S0 own0 v0 w0
  (refine AW.seq_k ?_; intro K hK)
  refine AW.region ?_
  refine awJ (op_box rfl rfl rfl sz77 rfl) ?_; (simp only [nA, Nat.reduceBEq, Nat.reduceEqDiff, ↓reduceIte, Nat.reduceAdd, Nat.reduceSub])
  refine awP (op_assign rfl rfl) ?_
  refine AWL.nil ?_
  (refine hK _ ?_; clear hK K; (simp only [nA, Nat.reduceBEq, Nat.reduceEqDiff, ↓reduceIte, Nat.reduceAdd, Nat.reduceSub]))
  (refine AW.seq_k ?_; intro K hK)
  refine AW.region (AWL.quiet ?_)
  (refine aqP (op_fa_ptr rfl rfl rfl fl77_0 (by exact sz3) (by decide) rfl) ?_)
  (refine aqR (op_load_ptr1 rfl rfl rfl rfl ag3 rfl rfl) ?_)
  refine aqP (op_geq rfl rfl rfl) ?_
  refine aqP (op_move rfl rfl) ?_
  refine' aqAnd' [_, _, _] [7,8,9] rfl rfl rfl rfl rfl rfl rfl rfl rfl rfl rfl rfl (fun hb => ?_) ?_; rotate_left
  ·
   (try simp only [hcS] at hb)
   (refine aqP (op_fa_ptr rfl rfl rfl fl77_0 (by exact sz3) (by decide) rfl) ?_)
   (refine aqR (op_load_ptr1 rfl rfl rfl rfl ag3 rfl rfl) ?_)
   refine aqP (op_leq rfl rfl rfl) ?_
   (refine aqSeg rfl rfl rfl ?_; repeat (first | exact fun _ _ => rfl | refine upd_out rfl ?_))
  (simp only [nA, Nat.reduceBEq, Nat.reduceEqDiff, ↓reduceIte, Nat.reduceAdd, Nat.reduceSub])
  refine aqP (op_move rfl rfl) ?_
  refine' aqAnd' [_, _, _] [12,13,14] rfl rfl rfl rfl rfl rfl rfl rfl rfl rfl rfl rfl (fun hb => ?_) ?_; rotate_left
  ·
   (try simp only [hcS] at hb)
   (refine aqP (op_fa_ptr rfl rfl rfl fl77_1 (by exact sz73) (by decide) rfl) ?_)
   (refine aqR (op_load_ptr rfl rfl rfl rfl ag73 sz73 (Nat.le_of_ble_eq_true rfl) rfl) ?_)
   refine aqQ (op_callQ (b := true) rfl en85 (C85 (f := c.flight)) (RL.cons (by exact View.same rfl) (RL.nil)) rfl) ?_; (simp only [nA, Nat.reduceBEq, Nat.reduceEqDiff, ↓reduceIte, Nat.reduceAdd, Nat.reduceSub])
   (refine aqSeg rfl rfl rfl ?_; repeat (first | exact fun _ _ => rfl | refine upd_out rfl ?_))
  (simp only [nA, Nat.reduceBEq, Nat.reduceEqDiff, ↓reduceIte, Nat.reduceAdd, Nat.reduceSub])
  refine aqP (op_move rfl rfl) ?_
  refine' aqAnd' [_, _, _] [17,18,19] rfl rfl rfl rfl rfl rfl rfl rfl rfl rfl rfl rfl (fun hb => ?_) ?_; rotate_left
  ·
   (try simp only [hcS] at hb)
   (refine aqP (op_fa_ptr rfl rfl rfl fl77_2 (by exact sz3) (by decide) rfl) ?_)
   (refine aqR (op_load_ptr1 rfl rfl rfl rfl ag3 rfl rfl) ?_)
   refine aqP (op_geq rfl rfl rfl) ?_
   (refine aqSeg rfl rfl rfl ?_; repeat (first | exact fun _ _ => rfl | refine upd_out rfl ?_))
  (simp only [nA, Nat.reduceBEq, Nat.reduceEqDiff, ↓reduceIte, Nat.reduceAdd, Nat.reduceSub])
  refine aqP (op_move rfl rfl) ?_
  refine' aqAnd' [_, _, _] [22,23,24] rfl rfl rfl rfl rfl rfl rfl rfl rfl rfl rfl rfl (fun hb => ?_) ?_; rotate_left
  ·
   (try simp only [hcS] at hb)
   (refine aqP (op_fa_ptr rfl rfl rfl fl77_2 (by exact sz3) (by decide) rfl) ?_)
   (refine aqR (op_load_ptr1 rfl rfl rfl rfl ag3 rfl rfl) ?_)
   refine aqP (op_lss rfl rfl rfl) ?_
   (refine aqSeg rfl rfl rfl ?_; repeat (first | exact fun _ _ => rfl | refine upd_out rfl ?_))
  (simp only [nA, Nat.reduceBEq, Nat.reduceEqDiff, ↓reduceIte, Nat.reduceAdd, Nat.reduceSub])
  refine aqP (op_move rfl rfl) ?_
  refine' aqAnd' [_, _, _] [27,28,29] rfl rfl rfl rfl rfl rfl rfl rfl rfl rfl rfl rfl (fun hb => ?_) ?_; rotate_left
  ·
   (try simp only [hcS] at hb)
   (refine aqP (op_fa_ptr rfl rfl rfl fl77_3 (by exact sz3) (by decide) rfl) ?_)
   (refine aqR (op_load_ptr1 rfl rfl rfl rfl ag3 rfl rfl) ?_)
   refine aqP (op_geq rfl rfl rfl) ?_
   (refine aqSeg rfl rfl rfl ?_; repeat (first | exact fun _ _ => rfl | refine upd_out rfl ?_))
  (simp only [nA, Nat.reduceBEq, Nat.reduceEqDiff, ↓reduceIte, Nat.reduceAdd, Nat.reduceSub])
  refine aqP (op_move rfl rfl) ?_
  refine' aqAnd' [_, _, _] [32,33,34] rfl rfl rfl rfl rfl rfl rfl rfl rfl rfl rfl rfl (fun hb => ?_) ?_; rotate_left
  ·
   (try simp only [hcS] at hb)
   (refine aqP (op_fa_ptr rfl rfl rfl fl77_3 (by exact sz3) (by decide) rfl) ?_)
   (refine aqR (op_load_ptr1 rfl rfl rfl rfl ag3 rfl rfl) ?_)
   refine aqP (op_leq rfl rfl rfl) ?_
   (refine aqSeg rfl rfl rfl ?_; repeat (first | exact fun _ _ => rfl | refine upd_out rfl ?_))
  (simp only [nA, Nat.reduceBEq, Nat.reduceEqDiff, ↓reduceIte, Nat.reduceAdd, Nat.reduceSub])
  refine aqP (op_move rfl rfl) ?_
  refine' aqAnd' [_, _, _] [37,38,39] rfl rfl rfl rfl rfl rfl rfl rfl rfl rfl rfl rfl (fun hb => ?_) ?_; rotate_left
  ·
   (try simp only [hcS] at hb)
   (refine aqP (op_fa_ptr rfl rfl rfl fl77_4 (by exact sz3) (by decide) rfl) ?_)
   (refine aqR (op_load_ptr1 rfl rfl rfl rfl ag3 rfl rfl) ?_)
   refine aqP (op_geq rfl rfl rfl) ?_
   (refine aqSeg rfl rfl rfl ?_; repeat (first | exact fun _ _ => rfl | refine upd_out rfl ?_))
  (simp only [nA, Nat.reduceBEq, Nat.reduceEqDiff, ↓reduceIte, Nat.reduceAdd, Nat.reduceSub])
  refine aqP (op_move rfl rfl) ?_
  refine' aqAnd' [_, _, _] [42,43,44] rfl rfl rfl rfl rfl rfl rfl rfl rfl rfl rfl rfl (fun hb => ?_) ?_; rotate_left
  ·
   (try simp only [hcS] at hb)
   (refine aqP (op_fa_ptr rfl rfl rfl fl77_4 (by exact sz3) (by decide) rfl) ?_)
   (refine aqR (op_load_ptr1 rfl rfl rfl rfl ag3 rfl rfl) ?_)
   refine aqP (op_leq rfl rfl rfl) ?_
   (refine aqSeg rfl rfl rfl ?_; repeat (first | exact fun _ _ => rfl | refine upd_out rfl ?_))
  (simp only [nA, Nat.reduceBEq, Nat.reduceEqDiff, ↓reduceIte, Nat.reduceAdd, Nat.reduceSub])
  refine aqP (op_move rfl rfl) ?_
  refine' aqAnd' [_, _, _] [47,48,49] rfl rfl rfl rfl rfl rfl rfl rfl rfl rfl rfl rfl (fun hb => ?_) ?_; rotate_left
  ·
   (try simp only [hcS] at hb)
   (refine aqP (op_fa_ptr rfl rfl rfl fl77_5 (by exact sz3) (by decide) rfl) ?_)
   (refine aqR (op_load_ptr1 rfl rfl rfl rfl ag3 rfl rfl) ?_)
   refine aqP (op_geq rfl rfl rfl) ?_
   (refine aqSeg rfl rfl rfl ?_; repeat (first | exact fun _ _ => rfl | refine upd_out rfl ?_))
  (simp only [nA, Nat.reduceBEq, Nat.reduceEqDiff, ↓reduceIte, Nat.reduceAdd, Nat.reduceSub])
  refine aqP (op_move rfl rfl) ?_
  refine' aqAnd' [_, _, _] [52,53,54] rfl rfl rfl rfl rfl rfl rfl rfl rfl rfl rfl rfl (fun hb => ?_) ?_; rotate_left
  ·
   (try simp only [hcS] at hb)
   (refine aqP (op_fa_ptr rfl rfl rfl fl77_5 (by exact sz3) (by decide) rfl) ?_)
   (refine aqR (op_load_ptr1 rfl rfl rfl rfl ag3 rfl rfl) ?_)
   refine aqP (op_leq rfl rfl rfl) ?_
   (refine aqSeg rfl rfl rfl ?_; repeat (first | exact fun _ _ => rfl | refine upd_out rfl ?_))
  (simp only [nA, Nat.reduceBEq, Nat.reduceEqDiff, ↓reduceIte, Nat.reduceAdd, Nat.reduceSub])
  refine aqP (op_move rfl rfl) ?_
  refine' aqAnd' [_, _, _] [57,58,59] rfl rfl rfl rfl rfl rfl rfl rfl rfl rfl rfl rfl (fun hb => ?_) ?_; rotate_left
  ·
   (try simp only [hcS] at hb)
   (refine aqP (op_fa_ptr rfl rfl rfl fl77_6 (by exact sz3) (by decide) rfl) ?_)
   (refine aqR (op_load_ptr1 rfl rfl rfl rfl ag3 rfl rfl) ?_)
   refine aqP (op_geq rfl rfl rfl) ?_
   (refine aqSeg rfl rfl rfl ?_; repeat (first | exact fun _ _ => rfl | refine upd_out rfl ?_))
  (simp only [nA, Nat.reduceBEq, Nat.reduceEqDiff, ↓reduceIte, Nat.reduceAdd, Nat.reduceSub])
  refine aqP (op_move rfl rfl) ?_
  refine' aqAnd' [_, _, _] [62,63,64] rfl rfl rfl rfl rfl rfl rfl rfl rfl rfl rfl rfl (fun hb => ?_) ?_; rotate_left
  ·
   (try simp only [hcS] at hb)
   (refine aqP (op_fa_ptr rfl rfl rfl fl77_6 (by exact sz3) (by decide) rfl) ?_)
   (refine aqR (op_load_ptr1 rfl rfl rfl rfl ag3 rfl rfl) ?_)
   refine aqP (op_leq rfl rfl rfl) ?_
   (refine aqSeg rfl rfl rfl ?_; repeat (first | exact fun _ _ => rfl | refine upd_out rfl ?_))
  (simp only [nA, Nat.reduceBEq, Nat.reduceEqDiff, ↓reduceIte, Nat.reduceAdd, Nat.reduceSub])
  refine aqP (op_assign rfl rfl) ?_
  refine AQ.nil ?_
  (refine hK _ ?_; clear hK K; (simp only [nA, Nat.reduceBEq, Nat.reduceEqDiff, ↓reduceIte, Nat.reduceAdd, Nat.reduceSub]))
  skip
  refine AW.ret ?_; exact RQ.of0 rfl (.tmp (Nat.le_of_ble_eq_true rfl) rfl rfl .nil)
theorem C87 {c : Container} : Fn Try.prog 87 [] [.agg c.av] [.v (.bool (coB c))] [] := by
  rw [← coR_eq]; exact C87r
theorem C88 {c : Container} {p : Plate} (hcl : c.pieces.length ≤ 1000000000) : Fn Try.prog 88 [] [.agg c.av, .agg p.av] [.v (.bool (hasB c.pieces p))] [] := by
  refine Spec.body Try.func88 rfl Try.ntmps88 (by simp) rfl ?_; intro S0 own0 v0 w0
  (refine AW.seq_k ?_; intro K hK)
  refine AW.region ?_
  refine awJ (op_box rfl rfl rfl sz77 rfl) ?_; (simp only [nA, Nat.reduceBEq, Nat.reduceEqDiff, ↓reduceIte, Nat.reduceAdd, Nat.reduceSub])
  refine awJ (op_box rfl rfl rfl sz29 rfl) ?_; (simp only [nA, Nat.reduceBEq, Nat.reduceEqDiff, ↓reduceIte, Nat.reduceAdd, Nat.reduceSub])
  refine awP (op_assign rfl rfl) ?_
  refine AWL.nil ?_
  (refine hK _ ?_; clear hK K; (simp only [nA, Nat.reduceBEq, Nat.reduceEqDiff, ↓reduceIte, Nat.reduceAdd, Nat.reduceSub]))
  (refine AW.seq_k ?_; intro K hK)
  (refine AW.seq_k ?_; intro K hK)
  refine AW.region ?_
  refine awP (op_assign rfl rfl) ?_
  refine AWL.nil ?_
  (refine hK _ ?_; clear hK K; (simp only [nA, Nat.reduceBEq, Nat.reduceEqDiff, ↓reduceIte, Nat.reduceAdd, Nat.reduceSub]))
  refine AW.block ?_
  refine AW.loopI (fun (i : Nat) => [(2, .ptr 0 1 0 0), (3, .ptr 1 2 0 0), (5, .v (.int .i64 (i : Nat)))]) (fun i => ⟨[(1, .own 77 [c.av]), (2, .own 29 [p.av])], 3⟩) (fun i => i ≤ c.pieces.length ∧ ∀ k (h : k < c.pieces.length), k < i → c.pieces[k].plate ≠ p) (fun i => c.pieces.length - i) 0 (by simp) ⟨rfl, rfl, rfl, trivial⟩ rfl ?_; intro i ρ hi; simp only [updL]
  (refine AW.seq_k ?_; intro K hK)
  (refine AW.seq_k ?_; intro K hK)
  refine AW.region ?_
  refine awP (op_move rfl rfl) ?_
  (refine awP (op_fa_ptr rfl rfl rfl fl77_7 (by exact sz53) (by decide) rfl) ?_)
  (refine awR (op_load_ptr1 rfl rfl rfl rfl ag53 rfl rfl) ?_)
  (refine awP (op_len_ro rfl rfl Try.underlying53 (by exact .inr (.inl ⟨_, rfl, rfl⟩))) ?_)
  refine awP (op_lss rfl rfl rfl) ?_
  refine AWL.nil ?_
  (refine hK _ ?_; clear hK K; (simp only [nA, Nat.reduceBEq, Nat.reduceEqDiff, ↓reduceIte, Nat.reduceAdd, Nat.reduceSub]))
  refine AW.cond rfl rfl rfl (fun hc => ?_) (fun hc => ?_)
  ·
   (try simp only [hcS] at hc); have hc1 := hc; have hlt : i < c.pieces.length := (by simpa using hc1)
   refine AW.skip ?_
   (refine hK _ ?_; clear hK K; (skip))
   (refine AW.seq_k ?_; intro K hK)
   refine AW.block ?_
   (refine AW.seq_k ?_; intro K hK)
   refine AW.quiet mix (by kernel_rfl) ?_
   (refine aqP (op_fa_ptr rfl rfl rfl fl77_7 (by exact sz53) (by decide) rfl) ?_)
   (refine aqR (op_load_ptr1 rfl rfl rfl rfl ag53 rfl rfl) ?_)
   refine aqP (op_move rfl rfl) ?_
   (refine aqP (op_ia_ro _ rfl (.inl rfl) rfl Try.underlying53 rfl (get_map (by omega)) (by exact sz31) (Nat.le_of_ble_eq_true rfl)) ?_)
   (refine aqP (op_fa_rop rfl rfl fl31_0 (by exact sz29) (by decide) (Nat.le_of_ble_eq_true rfl) rfl) ?_)
   (refine aqR (op_load_rop rfl rfl ag29 sz29 (Nat.le_of_ble_eq_true rfl) (by decide) rfl) ?_)
   (refine aqR (op_load_ptr rfl rfl rfl rfl ag29 sz29 (Nat.le_of_ble_eq_true rfl) rfl) ?_)
   refine aqP (op_eq29 rfl rfl rfl) ?_; (simp only [nA, Nat.reduceBEq, Nat.reduceEqDiff, ↓reduceIte, Nat.reduceAdd, Nat.reduceSub])
   refine AQ.nil ?_
   (refine hK _ ?_; clear hK K; (skip))
   refine AW.cond rfl rfl rfl (fun hc => ?_) (fun hc => ?_)
   ·
    (try simp only [hcS] at hc); have hc2 := hc; skip
    (refine AW.seq_k ?_; intro K hK)
    refine AW.region ?_
    refine awP (op_assign rfl rfl) ?_
    refine AWL.nil ?_
    (refine hK _ ?_; clear hK K; (simp only [nA, Nat.reduceBEq, Nat.reduceEqDiff, ↓reduceIte, Nat.reduceAdd, Nat.reduceSub]))
    skip
    refine AW.ret ?_; (simp only [thenE, inBlk, Nat.reduceEqDiff, ↓reduceIte]); rw [show hasB c.pieces p = true by unfold hasB; rw [List.any_eq_true]; exact ⟨c.pieces[i], List.getElem_mem _, by simpa using hc2⟩]; exact RQ.of0 rfl (.tmp (Nat.le_of_ble_eq_true rfl) rfl rfl .nil)
   ·
    (try simp only [hcS] at hc); have hc2 := hc; skip
    refine AW.skip ?_
    (simp only [thenE, inBlk, Nat.reduceEqDiff, ↓reduceIte])
    (refine hK _ ?_; clear hK K; (skip))
    refine AW.region ?_
    refine awP (op_move rfl rfl) ?_
    (refine awP (op_addi rfl rfl rfl (by omega)) ?_)
    refine awP (op_assign rfl rfl) ?_
    skip
    refine AWL.nil ?_
    refine ⟨i + 1, ⟨by omega, fun k h hk => by rcases Nat.lt_or_ge k i with h' | h'; exact hi.2 k h h'; (obtain rfl : k = i := by omega); exact hc2⟩, by omega, ⟨rfl, rfl, rfl, trivial⟩, (by rfl), (by rfl)⟩
  ·
   (try simp only [hcS] at hc); have hc1 := hc; skip
   refine AW.exit ?_; (simp only [thenE, inBlk, Nat.reduceEqDiff, ↓reduceIte])
   clear hK K
   (refine hK _ ?_; clear hK K; (skip))
   (refine AW.seq_k ?_; intro K hK)
   refine AW.region ?_
   refine awP (op_assign rfl rfl) ?_
   refine AWL.nil ?_
   (refine hK _ ?_; clear hK K; (simp only [nA, Nat.reduceBEq, Nat.reduceEqDiff, ↓reduceIte, Nat.reduceAdd, Nat.reduceSub]))
   skip
   refine AW.ret ?_; rw [show hasB c.pieces p = false by unfold hasB; rw [List.any_eq_false]; intro x hx; obtain ⟨k, hk, rfl⟩ := List.getElem_of_mem hx; have := hi.2 k hk (by simp at hc1; omega); simpa using this]; exact RQ.of0 rfl (.tmp (Nat.le_of_ble_eq_true rfl) rfl rfl .nil)
end Go.Proofs.Ytdnofpggdddimaa
namespace Go.Proofs.Ytdnofpggdddimaa
open Go.RowKit
set_option linter.unusedSimpArgs false
set_option linter.unusedVariables false
set_option maxRecDepth 100000
theorem cmpP_bd (p q : Plate) : cmpP p q = -1 ∨ cmpP p q = 0 ∨ cmpP p q = 1 := by
  rcases cmpP_cases p q with ⟨_, e⟩ | ⟨_, e⟩ | ⟨_, e⟩ <;> omega
theorem C70 {c : Container} : Fn Try.prog 70 [] [.agg c.av] [.v (.int .i64 (valC c))] [] := by
  refine Spec.body Try.func70 rfl Try.ntmps70 (by simp) rfl ?_; intro S0 own0 v0 w0
  (refine AW.seq_k ?_; intro K hK)
  refine AW.region ?_
  refine awJ (op_box rfl rfl rfl sz77 rfl) ?_; (simp only [nA, Nat.reduceBEq, Nat.reduceEqDiff, ↓reduceIte, Nat.reduceAdd, Nat.reduceSub])
  refine awP (op_assign rfl rfl) ?_; (simp only [nA, Nat.reduceBEq, Nat.reduceEqDiff, ↓reduceIte, Nat.reduceAdd, Nat.reduceSub])
  refine AWL.nil ?_
  (refine hK _ ?_; clear hK K; (simp only [nA, Nat.reduceBEq, Nat.reduceEqDiff, ↓reduceIte, Nat.reduceAdd, Nat.reduceSub]))
  (refine AW.seq_k ?_; intro K hK)
  (refine AW.seq_k ?_; intro K hK)
  refine AW.region ?_
  (refine awR (op_load_ptr rfl rfl rfl rfl ag77 sz77 (Nat.le_of_ble_eq_true rfl) rfl) ?_); (simp only [nA, Nat.reduceBEq, Nat.reduceEqDiff, ↓reduceIte, Nat.reduceAdd, Nat.reduceSub])
  refine awJ (OpQ.j (op_callQ (b := true) rfl en87 (C87 (c := c)) (RL.cons (by exact View.same rfl) (RL.nil)) rfl)) ?_; (simp only [nA, Nat.reduceBEq, Nat.reduceEqDiff, ↓reduceIte, Nat.reduceAdd, Nat.reduceSub])
  refine awP (op_not rfl rfl rfl) ?_; (simp only [nA, Nat.reduceBEq, Nat.reduceEqDiff, ↓reduceIte, Nat.reduceAdd, Nat.reduceSub])
  refine AWL.nil ?_
  (refine hK _ ?_; clear hK K; (skip))
  refine AW.cond rfl rfl rfl (fun hc => ?_) (fun hc => ?_)
  ·
   (try simp only [hcS] at hc); have hc1 := hc; skip
   (refine AW.seq_k ?_; intro K hK)
   refine AW.region ?_
   refine awP (op_assign rfl rfl) ?_; (simp only [nA, Nat.reduceBEq, Nat.reduceEqDiff, ↓reduceIte, Nat.reduceAdd, Nat.reduceSub])
   refine AWL.nil ?_
   (refine hK _ ?_; clear hK K; (skip))
   skip
   refine AW.ret ?_; (simp only [thenE, inBlk, Nat.reduceEqDiff, ↓reduceIte]); rw [show valC c = 1 by unfold valC; rw [if_pos hc]]; exact RQ.of0 rfl (.tmp (Nat.le_of_ble_eq_true rfl) rfl rfl .nil)
  ·
   (try simp only [hcS] at hc); have hc1 := hc; skip
   refine AW.skip ?_
   (refine hK _ ?_; clear hK K; (skip))
   (refine AW.seq_k ?_; intro K hK)
   (refine AW.seq_k ?_; intro K hK)
   refine AW.region ?_
   (refine awP (op_fa_ptr rfl rfl rfl fl77_7 (by exact sz53) (by decide) rfl) ?_); (simp only [nA, Nat.reduceBEq, Nat.reduceEqDiff, ↓reduceIte, Nat.reduceAdd, Nat.reduceSub])
   (refine awR (op_load_ptr1 rfl rfl rfl rfl ag53 rfl rfl) ?_); (simp only [nA, Nat.reduceBEq, Nat.reduceEqDiff, ↓reduceIte, Nat.reduceAdd, Nat.reduceSub])
   (refine awP (op_len_ro rfl rfl Try.underlying53 (by exact .inr (.inl ⟨_, rfl, rfl⟩))) ?_); (simp only [nA, Nat.reduceBEq, Nat.reduceEqDiff, ↓reduceIte, Nat.reduceAdd, Nat.reduceSub])
   refine awP (op_gtr rfl rfl rfl) ?_; (simp only [nA, Nat.reduceBEq, Nat.reduceEqDiff, ↓reduceIte, Nat.reduceAdd, Nat.reduceSub])
   refine AWL.nil ?_
   (refine hK _ ?_; clear hK K; (skip))
   refine AW.cond rfl rfl rfl (fun hc => ?_) (fun hc => ?_)
   ·
    (try simp only [hcS] at hc); have hc2 := hc; skip
    (refine AW.seq_k ?_; intro K hK)
    refine AW.region ?_
    refine awP (op_assign rfl rfl) ?_; (simp only [nA, Nat.reduceBEq, Nat.reduceEqDiff, ↓reduceIte, Nat.reduceAdd, Nat.reduceSub])
    refine AWL.nil ?_
    (refine hK _ ?_; clear hK K; (skip))
    skip
    refine AW.ret ?_; (simp only [thenE, inBlk, Nat.reduceEqDiff, ↓reduceIte]); rw [show valC c = 2 by unfold valC; rw [if_neg (by simp [hc1]), if_pos (by omega)]]; exact RQ.of0 rfl (.tmp (Nat.le_of_ble_eq_true rfl) rfl rfl .nil)
   ·
    (try simp only [hcS] at hc); have hc2 := hc; skip
    refine AW.skip ?_
    (refine hK _ ?_; clear hK K; (skip))
    (refine AW.seq_k ?_; intro K hK)
    (refine AW.seq_k ?_; intro K hK)
    refine AW.region ?_
    refine awP (op_assign rfl rfl) ?_; (simp only [nA, Nat.reduceBEq, Nat.reduceEqDiff, ↓reduceIte, Nat.reduceAdd, Nat.reduceSub])
    refine AWL.nil ?_
    (refine hK _ ?_; clear hK K; (skip))
    refine AW.block ?_
    refine AW.loopI (fun (i : Nat) => [(1, .ptr 0 1 0 0), (3, .v (.int .i64 (i : Nat)))]) (fun i => ⟨[(1, .own 77 [c.av])], 2⟩) (fun i => i ≤ c.pieces.length ∧ ∀ k, k < i → errI c.pieces k = 0) (fun i => c.pieces.length - i) 0 (by simp) ⟨rfl, rfl, trivial⟩ rfl ?_; intro i ρ hi; simp only [updL]
    (refine AW.seq_k ?_; intro K hK)
    (refine AW.seq_k ?_; intro K hK)
    refine AW.region ?_
    refine awP (op_move rfl rfl) ?_; (simp only [nA, Nat.reduceBEq, Nat.reduceEqDiff, ↓reduceIte, Nat.reduceAdd, Nat.reduceSub])
    (refine awP (op_fa_ptr rfl rfl rfl fl77_7 (by exact sz53) (by decide) rfl) ?_); (simp only [nA, Nat.reduceBEq, Nat.reduceEqDiff, ↓reduceIte, Nat.reduceAdd, Nat.reduceSub])
    (refine awR (op_load_ptr1 rfl rfl rfl rfl ag53 rfl rfl) ?_); (simp only [nA, Nat.reduceBEq, Nat.reduceEqDiff, ↓reduceIte, Nat.reduceAdd, Nat.reduceSub])
    (refine awP (op_len_ro rfl rfl Try.underlying53 (by exact .inr (.inl ⟨_, rfl, rfl⟩))) ?_); (simp only [nA, Nat.reduceBEq, Nat.reduceEqDiff, ↓reduceIte, Nat.reduceAdd, Nat.reduceSub])
    refine awP (op_lss rfl rfl rfl) ?_; (simp only [nA, Nat.reduceBEq, Nat.reduceEqDiff, ↓reduceIte, Nat.reduceAdd, Nat.reduceSub])
    refine AWL.nil ?_
    (refine hK _ ?_; clear hK K; (skip))
    refine AW.cond rfl rfl rfl (fun hc => ?_) (fun hc => ?_)
    ·
     (try simp only [hcS] at hc); have hc3 := hc; have hlt : i < c.pieces.length := (by simpa using hc3)
     refine AW.skip ?_
     (refine hK _ ?_; clear hK K; (skip))
     (refine AW.seq_k ?_; intro K hK)
     refine AW.block ?_
     (refine AW.seq_k ?_; intro K hK)
     (refine AW.seq_k ?_; intro K hK)
     refine AW.region ?_
     (refine awP (op_fa_ptr rfl rfl rfl fl77_7 (by exact sz53) (by decide) rfl) ?_); (simp only [nA, Nat.reduceBEq, Nat.reduceEqDiff, ↓reduceIte, Nat.reduceAdd, Nat.reduceSub])
     (refine awR (op_load_ptr1 rfl rfl rfl rfl ag53 rfl rfl) ?_); (simp only [nA, Nat.reduceBEq, Nat.reduceEqDiff, ↓reduceIte, Nat.reduceAdd, Nat.reduceSub])
     refine awP (op_move rfl rfl) ?_; (simp only [nA, Nat.reduceBEq, Nat.reduceEqDiff, ↓reduceIte, Nat.reduceAdd, Nat.reduceSub])
     (refine awP (op_ia_ro i rfl (.inl rfl) rfl Try.underlying53 rfl (get_map (by omega)) (by exact sz31) (Nat.le_of_ble_eq_true rfl)) ?_); (simp only [nA, Nat.reduceBEq, Nat.reduceEqDiff, ↓reduceIte, Nat.reduceAdd, Nat.reduceSub])
     (refine awR (op_load_rop rfl rfl ag31 sz31 (Nat.le_of_ble_eq_true rfl) (by decide) rfl) ?_); (simp only [nA, Nat.reduceBEq, Nat.reduceEqDiff, ↓reduceIte, Nat.reduceAdd, Nat.reduceSub])
     refine awJ (OpQ.j (op_callQ (b := true) rfl en55 (C55) (RL.cons (by exact View.same rfl) (RL.nil)) rfl)) ?_; (simp only [nA, Nat.reduceBEq, Nat.reduceEqDiff, ↓reduceIte, Nat.reduceAdd, Nat.reduceSub])
     refine awP (op_not rfl rfl rfl) ?_; (simp only [nA, Nat.reduceBEq, Nat.reduceEqDiff, ↓reduceIte, Nat.reduceAdd, Nat.reduceSub])
     refine AWL.nil ?_
     (refine hK _ ?_; clear hK K; (skip))
     refine AW.cond rfl rfl rfl (fun hc => ?_) (fun hc => ?_)
     ·
      (try simp only [hcS] at hc); have hc4 := hc; skip
      (refine AW.seq_k ?_; intro K hK)
      refine AW.region ?_
      refine awP (op_assign rfl rfl) ?_; (simp only [nA, Nat.reduceBEq, Nat.reduceEqDiff, ↓reduceIte, Nat.reduceAdd, Nat.reduceSub])
      refine AWL.nil ?_
      (refine hK _ ?_; clear hK K; (skip))
      skip
      refine AW.ret ?_; (simp only [thenE, inBlk, Nat.reduceEqDiff, ↓reduceIte]); rw [val_err (e := 1) hc1 (by omega) (i := i) (by omega) hi.2 (by rw [errI_at (by omega), if_pos hc4]) (by decide)]; exact RQ.of0 rfl (.tmp (Nat.le_of_ble_eq_true rfl) rfl rfl .nil)
     ·
      (try simp only [hcS] at hc); have hc4 := hc; skip
      refine AW.skip ?_
      (refine hK _ ?_; clear hK K; (skip))
      (refine AW.seq_k ?_; intro K hK)
      (refine AW.seq_k ?_; intro K hK)
      refine AW.region ?_
      refine awP (op_move rfl rfl) ?_; (simp only [nA, Nat.reduceBEq, Nat.reduceEqDiff, ↓reduceIte, Nat.reduceAdd, Nat.reduceSub])
      (refine awP (op_eql rfl rfl rfl) ?_); (simp only [nA, Nat.reduceBEq, Nat.reduceEqDiff, ↓reduceIte, Nat.reduceAdd, Nat.reduceSub])
      refine AWL.nil ?_
      (refine hK _ ?_; clear hK K; (skip))
      refine AW.cond rfl rfl rfl (fun hc => ?_) (fun hc => ?_)
      ·
       (try simp only [hcS] at hc); have hc5 := hc; skip
       refine AW.exit ?_; (simp only [thenE, inBlk, Nat.reduceEqDiff, ↓reduceIte])
       clear hK K
       (refine hK _ ?_; clear hK K; (skip))
       refine AW.region ?_
       refine awP (op_move rfl rfl) ?_; (simp only [nA, Nat.reduceBEq, Nat.reduceEqDiff, ↓reduceIte, Nat.reduceAdd, Nat.reduceSub])
       (refine awP (op_addi rfl rfl rfl (by omega)) ?_); (simp only [nA, Nat.reduceBEq, Nat.reduceEqDiff, ↓reduceIte, Nat.reduceAdd, Nat.reduceSub])
       refine awP (op_assign rfl rfl) ?_; (simp only [nA, Nat.reduceBEq, Nat.reduceEqDiff, ↓reduceIte, Nat.reduceAdd, Nat.reduceSub])
       skip
       refine AWL.nil ?_
       refine ⟨i + 1, ⟨by omega, all_step hi.2 (by rw [errI_at (by omega), if_neg (by simp [hc4]), if_pos (by omega)])⟩, by omega, ⟨rfl, rfl, trivial⟩, (by rfl), (by rfl)⟩
      ·
       (try simp only [hcS] at hc); have hc5 := hc; skip
       refine AW.skip ?_
       (refine hK _ ?_; clear hK K; (skip))
       (refine AW.seq_k ?_; intro K hK)
       refine AW.quiet mix (by kernel_rfl) ?_
       (refine aqP (op_fa_ptr rfl rfl rfl fl77_7 (by exact sz53) (by decide) rfl) ?_); (simp only [nA, Nat.reduceBEq, Nat.reduceEqDiff, ↓reduceIte, Nat.reduceAdd, Nat.reduceSub])
       (refine aqR (op_load_ptr1 rfl rfl rfl rfl ag53 rfl rfl) ?_); (simp only [nA, Nat.reduceBEq, Nat.reduceEqDiff, ↓reduceIte, Nat.reduceAdd, Nat.reduceSub])
       refine aqP (op_move rfl rfl) ?_; (simp only [nA, Nat.reduceBEq, Nat.reduceEqDiff, ↓reduceIte, Nat.reduceAdd, Nat.reduceSub])
       (refine aqP (op_subi rfl rfl rfl (by omega)) ?_); (simp only [nA, Nat.reduceBEq, Nat.reduceEqDiff, ↓reduceIte, Nat.reduceAdd, Nat.reduceSub])
       (refine aqP (op_ia_ro (i - 1) rfl (.inl rfl) rfl Try.underlying53 (by omega) (get_map (by omega)) (by exact sz31) (Nat.le_of_ble_eq_true rfl)) ?_); (simp only [nA, Nat.reduceBEq, Nat.reduceEqDiff, ↓reduceIte, Nat.reduceAdd, Nat.reduceSub])
       (refine aqP (op_fa_rop rfl rfl fl31_0 (by exact sz29) (by decide) (Nat.le_of_ble_eq_true rfl) rfl) ?_); (simp only [nA, Nat.reduceBEq, Nat.reduceEqDiff, ↓reduceIte, Nat.reduceAdd, Nat.reduceSub])
       (refine aqR (op_load_rop rfl rfl ag29 sz29 (Nat.le_of_ble_eq_true rfl) (by decide) rfl) ?_); (simp only [nA, Nat.reduceBEq, Nat.reduceEqDiff, ↓reduceIte, Nat.reduceAdd, Nat.reduceSub])
       (refine aqP (op_fa_ptr rfl rfl rfl fl77_7 (by exact sz53) (by decide) rfl) ?_); (simp only [nA, Nat.reduceBEq, Nat.reduceEqDiff, ↓reduceIte, Nat.reduceAdd, Nat.reduceSub])
       (refine aqR (op_load_ptr1 rfl rfl rfl rfl ag53 rfl rfl) ?_); (simp only [nA, Nat.reduceBEq, Nat.reduceEqDiff, ↓reduceIte, Nat.reduceAdd, Nat.reduceSub])
       refine aqP (op_move rfl rfl) ?_; (simp only [nA, Nat.reduceBEq, Nat.reduceEqDiff, ↓reduceIte, Nat.reduceAdd, Nat.reduceSub])
       (refine aqP (op_ia_ro _ rfl (.inl rfl) rfl Try.underlying53 rfl (get_map (by omega)) (by exact sz31) (Nat.le_of_ble_eq_true rfl)) ?_); (simp only [nA, Nat.reduceBEq, Nat.reduceEqDiff, ↓reduceIte, Nat.reduceAdd, Nat.reduceSub])
       (refine aqP (op_fa_rop rfl rfl fl31_0 (by exact sz29) (by decide) (Nat.le_of_ble_eq_true rfl) rfl) ?_); (simp only [nA, Nat.reduceBEq, Nat.reduceEqDiff, ↓reduceIte, Nat.reduceAdd, Nat.reduceSub])
       (refine aqR (op_load_rop rfl rfl ag29 sz29 (Nat.le_of_ble_eq_true rfl) (by decide) rfl) ?_); (simp only [nA, Nat.reduceBEq, Nat.reduceEqDiff, ↓reduceIte, Nat.reduceAdd, Nat.reduceSub])
       refine aqQ (op_callQ (b := true) rfl en68 (C68) (RL.cons (by exact View.same rfl) (RL.cons (by exact View.same rfl) (RL.nil))) rfl) ?_; (simp only [nA, Nat.reduceBEq, Nat.reduceEqDiff, ↓reduceIte, Nat.reduceAdd, Nat.reduceSub])
       refine aqP (op_assign rfl rfl) ?_; (simp only [nA, Nat.reduceBEq, Nat.reduceEqDiff, ↓reduceIte, Nat.reduceAdd, Nat.reduceSub])
       refine AQ.nil ?_
       (refine hK _ ?_; clear hK K; (skip))
       (refine AW.seq_k ?_; intro K hK)
       refine AW.region ?_
       refine awP (op_move rfl rfl) ?_; (simp only [nA, Nat.reduceBEq, Nat.reduceEqDiff, ↓reduceIte, Nat.reduceAdd, Nat.reduceSub])
       (refine awP (op_eql rfl rfl rfl) ?_); (simp only [nA, Nat.reduceBEq, Nat.reduceEqDiff, ↓reduceIte, Nat.reduceAdd, Nat.reduceSub])
       refine AWL.nil ?_
       (refine hK _ ?_; clear hK K; (skip))
       refine AW.cond rfl rfl rfl (fun hc => ?_) (fun hc => ?_)
       ·
        (try simp only [hcS] at hc); have hc6 := hc; skip
        (refine AW.seq_k ?_; intro K hK)
        refine AW.region ?_
        refine awP (op_assign rfl rfl) ?_; (simp only [nA, Nat.reduceBEq, Nat.reduceEqDiff, ↓reduceIte, Nat.reduceAdd, Nat.reduceSub])
        refine AWL.nil ?_
        (refine hK _ ?_; clear hK K; (skip))
        skip
        refine AW.ret ?_; (simp only [thenE, inBlk, Nat.reduceEqDiff, ↓reduceIte]); rw [val_err (e := 5) hc1 (by omega) (i := i) (by omega) hi.2 (by rw [errI_at (by omega), if_neg (by simp [hc4]), if_neg (by omega), if_pos hc6]) (by decide)]; exact RQ.of0 rfl (.tmp (Nat.le_of_ble_eq_true rfl) rfl rfl .nil)
       ·
        (try simp only [hcS] at hc); have hc6 := hc; have hcb := cmpP_bd c.pieces[i - 1].plate c.pieces[i].plate
        (refine AW.seq_k ?_; intro K hK)
        refine AW.region ?_
        refine awP (op_move rfl rfl) ?_; (simp only [nA, Nat.reduceBEq, Nat.reduceEqDiff, ↓reduceIte, Nat.reduceAdd, Nat.reduceSub])
        refine awP (op_gtr rfl rfl rfl) ?_; (simp only [nA, Nat.reduceBEq, Nat.reduceEqDiff, ↓reduceIte, Nat.reduceAdd, Nat.reduceSub])
        refine AWL.nil ?_
        (refine hK _ ?_; clear hK K; (skip))
        refine AW.cond rfl rfl rfl (fun hc => ?_) (fun hc => ?_)
        ·
         (try simp only [hcS] at hc); have hc7 := hc; skip
         (refine AW.seq_k ?_; intro K hK)
         refine AW.region ?_
         refine awP (op_assign rfl rfl) ?_; (simp only [nA, Nat.reduceBEq, Nat.reduceEqDiff, ↓reduceIte, Nat.reduceAdd, Nat.reduceSub])
         refine AWL.nil ?_
         (refine hK _ ?_; clear hK K; (skip))
         skip
         refine AW.ret ?_; (simp only [thenE, inBlk, Nat.reduceEqDiff, ↓reduceIte]); rw [val_err (e := 9) hc1 (by omega) (i := i) (by omega) hi.2 (by rw [errI_at (by omega), if_neg (by simp [hc4]), if_neg (by omega), if_neg hc6, if_pos (by omega)]) (by decide)]; exact RQ.of0 rfl (.tmp (Nat.le_of_ble_eq_true rfl) rfl rfl .nil)
        ·
         (try simp only [hcS] at hc); have hc7 := hc; skip
         refine AW.skip ?_
         (simp only [thenE, inBlk, Nat.reduceEqDiff, ↓reduceIte])
         (refine hK _ ?_; clear hK K; (skip))
         refine AW.region ?_
         refine awP (op_move rfl rfl) ?_; (simp only [nA, Nat.reduceBEq, Nat.reduceEqDiff, ↓reduceIte, Nat.reduceAdd, Nat.reduceSub])
         (refine awP (op_addi rfl rfl rfl (by omega)) ?_); (simp only [nA, Nat.reduceBEq, Nat.reduceEqDiff, ↓reduceIte, Nat.reduceAdd, Nat.reduceSub])
         refine awP (op_assign rfl rfl) ?_; (simp only [nA, Nat.reduceBEq, Nat.reduceEqDiff, ↓reduceIte, Nat.reduceAdd, Nat.reduceSub])
         skip
         refine AWL.nil ?_
         refine ⟨i + 1, ⟨by omega, all_step hi.2 (by rw [errI_at (by omega), if_neg (by simp [hc4]), if_neg (by omega), if_neg hc6, if_neg (by omega)])⟩, by omega, ⟨rfl, rfl, trivial⟩, (by rfl), (by rfl)⟩
    ·
     (try simp only [hcS] at hc); have hc3 := hc; skip
     refine AW.exit ?_; (simp only [thenE, inBlk, Nat.reduceEqDiff, ↓reduceIte])
     clear hK K
     (refine hK _ ?_; clear hK K; (skip))
     (refine AW.seq_k ?_; intro K hK)
     refine AW.region ?_
     refine awP (op_assign rfl rfl) ?_; (simp only [nA, Nat.reduceBEq, Nat.reduceEqDiff, ↓reduceIte, Nat.reduceAdd, Nat.reduceSub])
     refine AWL.nil ?_
     (refine hK _ ?_; clear hK K; (skip))
     skip
     refine AW.ret ?_; rw [val_ok hc1 (by omega) (i := i) (by omega) hi.2]; exact RQ.of0 rfl (.tmp (Nat.le_of_ble_eq_true rfl) rfl rfl .nil)
abbrev setP (c : Container) (l : List Piece) : Container := ⟨c.number, c.flight, c.categories, c.limit, c.most, c.position, c.arm, l⟩
end Go.Proofs.Ytdnofpggdddimaa
namespace Go.Proofs.Ytdnofpggdddimaa
open Go.RowKit
set_option linter.unusedSimpArgs false
set_option linter.unusedVariables false
set_option maxRecDepth 100000
def smallB (xs : List Container) : Bool := xs.all (fun c => decide (c.pieces.length ≤ 70)) && decide ((xs.length : Int) ≤ 30)
theorem C71 {xs : List Container} {p : Plate} (hx : xs.length ≤ 1000000) (hb : ∀ c ∈ xs, c.pieces.length ≤ 1000000000) : Fn Try.prog 71 [] [.ro (xs.map Container.av), .agg p.av] [.v (.int .i64 (findL xs p).1), .v (.bool (findL xs p).2)] [] := by
  refine Spec.body Try.func71 rfl Try.ntmps71 (by simp) rfl ?_; intro S0 own0 v0 w0
  (refine AW.seq_k ?_; intro K hK)
  refine AW.region ?_
  refine awJ (op_box rfl rfl rfl sz29 rfl) ?_; (simp only [nA, Nat.reduceBEq, Nat.reduceEqDiff, ↓reduceIte, Nat.reduceAdd, Nat.reduceSub])
  refine awP (op_assign rfl rfl) ?_
  refine awP (op_assign rfl rfl) ?_
  refine AWL.nil ?_
  (refine hK _ ?_; clear hK K; (simp only [nA, Nat.reduceBEq, Nat.reduceEqDiff, ↓reduceIte, Nat.reduceAdd, Nat.reduceSub]))
  (refine AW.seq_k ?_; intro K hK)
  (refine AW.seq_k ?_; intro K hK)
  refine AW.region ?_
  refine awP (op_assign rfl rfl) ?_
  refine AWL.nil ?_
  (refine hK _ ?_; clear hK K; (simp only [nA, Nat.reduceBEq, Nat.reduceEqDiff, ↓reduceIte, Nat.reduceAdd, Nat.reduceSub]))
  refine AW.block ?_
  refine AW.loopI (fun (i : Nat) => [(0, .ro (xs.map Container.av)), (3, .ptr 0 1 0 0), (6, .v (.int .i64 (i : Nat)))]) (fun _ => ⟨[(1, .own 29 [p.av])], 2⟩) (fun i => i ≤ xs.length ∧ ∀ k (h : k < xs.length), k < i → hasB xs[k].pieces p = false) (fun i => xs.length - i) 0 ⟨by simp, by simp⟩ ⟨rfl, rfl, rfl, trivial⟩ rfl ?_; intro i ρ hI; simp only [updL]
  (refine AW.seq_k ?_; intro K hK)
  (refine AW.seq_k ?_; intro K hK)
  refine AW.region ?_
  refine awP (op_move rfl rfl) ?_
  refine awP (op_move rfl rfl) ?_
  (refine awP (op_len_ro rfl rfl Try.underlying23 (by exact .inr (.inl ⟨_, rfl, rfl⟩))) ?_)
  refine awP (op_lss rfl rfl rfl) ?_
  refine AWL.nil ?_
  (refine hK _ ?_; clear hK K; (simp only [nA, Nat.reduceBEq, Nat.reduceEqDiff, ↓reduceIte, Nat.reduceAdd, Nat.reduceSub]))
  refine AW.cond rfl rfl rfl (fun hc => ?_) (fun hc => ?_)
  ·
   (try simp only [hcS] at hc); have hc1 := hc; have hlt : i < xs.length := (by simpa using hc1); obtain ⟨c, hci⟩ : ∃ c, xs[i]? = some c := ⟨xs[i], List.getElem?_eq_getElem hlt⟩; have hcl := hb c (List.mem_of_getElem? hci)
   refine AW.skip ?_
   (refine hK _ ?_; clear hK K; (skip))
   (refine AW.seq_k ?_; intro K hK)
   refine AW.block ?_
   (refine AW.seq_k ?_; intro K hK)
   refine AW.quiet mix (by kernel_rfl) ?_
   refine aqP (op_move rfl rfl) ?_
   refine aqP (op_move rfl rfl) ?_
   (refine aqP (op_ia_ro i rfl (.inl rfl) rfl Try.underlying23 rfl (get_of hci) (by exact sz77) (Nat.le_of_ble_eq_true rfl)) ?_)
   (refine aqR (op_load_rop rfl rfl ag77 sz77 (Nat.le_of_ble_eq_true rfl) (by decide) rfl) ?_)
   (refine aqR (op_load_ptr rfl rfl rfl rfl ag29 sz29 (Nat.le_of_ble_eq_true rfl) rfl) ?_)
   refine aqQ (op_callQ (b := true) rfl en88 (C88 (c := c) (p := p) hcl) (RL.cons (by exact View.same rfl) (RL.cons (by exact View.same rfl) (RL.nil))) rfl) ?_; (simp only [nA, Nat.reduceBEq, Nat.reduceEqDiff, ↓reduceIte, Nat.reduceAdd, Nat.reduceSub])
   refine AQ.nil ?_
   (refine hK _ ?_; clear hK K; (skip))
   refine AW.cond rfl rfl rfl (fun hc => ?_) (fun hc => ?_)
   ·
    (try simp only [hcS] at hc); have hc2 := hc; skip
    (refine AW.seq_k ?_; intro K hK)
    refine AW.region ?_
    refine awP (op_move rfl rfl) ?_
    refine awP (op_move rfl rfl) ?_
    (refine awP (op_ia_ro i rfl (.inl rfl) rfl Try.underlying23 rfl (get_of hci) (by exact sz77) (Nat.le_of_ble_eq_true rfl)) ?_)
    (refine awP (op_fa_rop rfl rfl fl77_0 (by exact sz3) (by decide) (Nat.le_of_ble_eq_true rfl) rfl) ?_)
    (refine awR (op_load_rop1 rfl rfl ag3) ?_)
    refine awP (op_assign rfl rfl) ?_
    refine awP (op_assign rfl rfl) ?_
    refine AWL.nil ?_
    (refine hK _ ?_; clear hK K; (simp only [nA, Nat.reduceBEq, Nat.reduceEqDiff, ↓reduceIte, Nat.reduceAdd, Nat.reduceSub]))
    skip
    refine AW.ret ?_; (simp only [thenE, inBlk, Nat.reduceEqDiff, ↓reduceIte]); rw [find_yes hci hI.2 hc2]; exact RQ.of0 rfl (.tmp (Nat.le_of_ble_eq_true rfl) rfl rfl (.tmp (Nat.le_of_ble_eq_true rfl) rfl rfl .nil))
   ·
    (try simp only [hcS] at hc); have hc2 := hc; skip
    refine AW.skip ?_
    (simp only [thenE, inBlk, Nat.reduceEqDiff, ↓reduceIte])
    (refine hK _ ?_; clear hK K; (skip))
    refine AW.region ?_
    refine awP (op_move rfl rfl) ?_
    (refine awP (op_addi rfl rfl rfl (by omega)) ?_)
    refine awP (op_assign rfl rfl) ?_
    skip
    refine AWL.nil ?_
    refine ⟨i + 1, ⟨by omega, fun k h hk => by rcases Nat.lt_or_ge k i with h' | h'; exact hI.2 k h h'; (obtain rfl : k = i := by omega); (rw [(List.getElem?_eq_some_iff.1 hci).2]; exact hc2)⟩, by omega, ⟨rfl, rfl, rfl, trivial⟩, (by rfl), (by rfl)⟩
  ·
   (try simp only [hcS] at hc); have hc1 := hc; skip
   refine AW.exit ?_; (simp only [thenE, inBlk, Nat.reduceEqDiff, ↓reduceIte])
   clear hK K
   (refine hK _ ?_; clear hK K; (skip))
   (refine AW.seq_k ?_; intro K hK)
   refine AW.region ?_
   refine awP (op_assign rfl rfl) ?_
   refine awP (op_assign rfl rfl) ?_
   refine AWL.nil ?_
   (refine hK _ ?_; clear hK K; (simp only [nA, Nat.reduceBEq, Nat.reduceEqDiff, ↓reduceIte, Nat.reduceAdd, Nat.reduceSub]))
   skip
   refine AW.ret ?_; rw [find_none (xs := xs) (p := p) (fun k h => hI.2 k h (by simp at hc1; omega))]; exact RQ.of0 rfl (.tmp (Nat.le_of_ble_eq_true rfl) rfl rfl (.tmp (Nat.le_of_ble_eq_true rfl) rfl rfl .nil))
end Go.Proofs.Ytdnofpggdddimaa
namespace Go.Proofs.Ytdnofpggdddimaa
open Go.RowKit
set_option linter.unusedSimpArgs false
set_option linter.unusedVariables false
set_option maxRecDepth 100000
structure Grant where
  piece : Piece
  flight : Flight
structure Op where
  time : Int
  device : Int
  seq : Int
  kind : Int
  cont : Int
  piece : Piece
structure Hand where
  number : Int
  next : Int
  last : Int
  offline : Bool
  grants : List Grant
  conts : List Container
  log : List Op
abbrev Grant.av (g : Grant) : List AV := [.v (.int .i64 g.piece.plate.lead), .v (.int .i64 g.piece.plate.airline), .v (.int .i64 g.piece.plate.serial), .v (.int .i64 g.piece.weight), .v (.int .i64 g.piece.category), .v (.string g.flight.carrier), .v (.int .i64 g.flight.number), .v (.string g.flight.suffix), .v (.int .i64 g.flight.day)]
abbrev Op.av (o : Op) : List AV := [.v (.int .i64 o.time), .v (.int .i64 o.device), .v (.int .i64 o.seq), .v (.int .i64 o.kind), .v (.int .i64 o.cont), .v (.int .i64 o.piece.plate.lead), .v (.int .i64 o.piece.plate.airline), .v (.int .i64 o.piece.plate.serial), .v (.int .i64 o.piece.weight), .v (.int .i64 o.piece.category)]
abbrev Hand.av (h : Hand) : List AV := [.v (.int .i64 h.number), .v (.int .i64 h.next), .v (.int .i64 h.last), .v (.bool h.offline), .ro (h.grants.map Grant.av), .ro (h.conts.map Container.av), .ro (h.log.map Op.av)]
/-- The lists are small. -/
structure Hand.Sm (h : Hand) : Prop where
  g : h.grants.length ≤ 1000
  c : h.conts.length ≤ 1000
  l : h.log.length ≤ 1000
  p : ∀ c ∈ h.conts, c.pieces.length ≤ 1000
theorem C43 {n lo hi : Int} : Fn Try.prog 43 [] [.v (.int .i64 n), .v (.int .i64 lo), .v (.int .i64 hi)] [.v (.bool (inB n lo hi))] [] := by
  refine Spec.body Try.func43 rfl Try.ntmps43 (by simp) rfl ?_; intro S0 own0 v0 w0
  (refine AW.seq_k ?_; intro K hK)
  refine AW.region ?_
  refine awP (op_assign rfl rfl) ?_
  refine AWL.nil ?_
  (refine hK _ ?_; clear hK K; (simp only [nA, Nat.reduceBEq, Nat.reduceEqDiff, ↓reduceIte, Nat.reduceAdd, Nat.reduceSub]))
  (refine AW.seq_k ?_; intro K hK)
  refine AW.region (AWL.quiet ?_)
  refine aqP (op_move rfl rfl) ?_
  refine aqP (op_move rfl rfl) ?_
  refine aqP (op_geq rfl rfl rfl) ?_
  refine aqP (op_move rfl rfl) ?_
  refine' aqAnd' [_, _, _] [11,12,13] rfl rfl rfl rfl rfl rfl rfl rfl rfl rfl rfl rfl (fun hb => ?_) ?_; rotate_left
  ·
   (try simp only [hcS] at hb)
   refine aqP (op_move rfl rfl) ?_
   refine aqP (op_move rfl rfl) ?_
   refine aqP (op_leq rfl rfl rfl) ?_
   (refine aqSeg rfl rfl rfl ?_; repeat (first | exact fun _ _ => rfl | refine upd_out rfl ?_))
  (simp only [nA, Nat.reduceBEq, Nat.reduceEqDiff, ↓reduceIte, Nat.reduceAdd, Nat.reduceSub])
  refine aqP (op_assign rfl rfl) ?_
  refine AQ.nil ?_
  (refine hK _ ?_; clear hK K; (simp only [nA, Nat.reduceBEq, Nat.reduceEqDiff, ↓reduceIte, Nat.reduceAdd, Nat.reduceSub]))
  skip
  refine AW.ret ?_; exact RQ.of0 rfl (.tmp (Nat.le_of_ble_eq_true rfl) rfl rfl .nil)
theorem C54 {p : Piece} : Fn Try.prog 54 [] [.agg p.av] [.v (.bool (piB p))] [] := by
  refine Spec.body Try.func54 rfl Try.ntmps54 (by simp) rfl ?_; intro S0 own0 v0 w0
  (refine AW.seq_k ?_; intro K hK)
  refine AW.region ?_
  refine awJ (op_box rfl rfl rfl sz31 rfl) ?_; (simp only [nA, Nat.reduceBEq, Nat.reduceEqDiff, ↓reduceIte, Nat.reduceAdd, Nat.reduceSub])
  refine awP (op_assign rfl rfl) ?_
  refine AWL.nil ?_
  (refine hK _ ?_; clear hK K; (simp only [nA, Nat.reduceBEq, Nat.reduceEqDiff, ↓reduceIte, Nat.reduceAdd, Nat.reduceSub]))
  (refine AW.seq_k ?_; intro K hK)
  refine AW.region (AWL.quiet ?_)
  (refine aqP (op_fa_ptr rfl rfl rfl fl31_0 (by exact sz29) (by decide) rfl) ?_)
  (refine aqR (op_load_ptr rfl rfl rfl rfl ag29 sz29 (Nat.le_of_ble_eq_true rfl) rfl) ?_)
  refine aqQ (op_callQ (b := true) rfl en72 (C72 (p := p.plate)) (RL.cons (by exact View.same rfl) (RL.nil)) rfl) ?_; (simp only [nA, Nat.reduceBEq, Nat.reduceEqDiff, ↓reduceIte, Nat.reduceAdd, Nat.reduceSub])
  refine aqP (op_move rfl rfl) ?_
  refine' aqAnd' [_, _, _] [7,8,9] rfl rfl rfl rfl rfl rfl rfl rfl rfl rfl rfl rfl (fun hb => ?_) ?_; rotate_left
  ·
   (try simp only [hcS] at hb)
   (refine aqP (op_fa_ptr rfl rfl rfl fl31_1 (by exact sz3) (by decide) rfl) ?_)
   (refine aqR (op_load_ptr1 rfl rfl rfl rfl ag3 rfl rfl) ?_)
   refine aqQ (op_callQ (b := true) rfl en43 (C43) (RL.cons (by exact View.same rfl) (RL.cons (by exact View.same rfl) (RL.cons (by exact View.same rfl) (RL.nil)))) rfl) ?_; (simp only [nA, Nat.reduceBEq, Nat.reduceEqDiff, ↓reduceIte, Nat.reduceAdd, Nat.reduceSub])
   (refine aqSeg rfl rfl rfl ?_; repeat (first | exact fun _ _ => rfl | refine upd_out rfl ?_))
  (simp only [nA, Nat.reduceBEq, Nat.reduceEqDiff, ↓reduceIte, Nat.reduceAdd, Nat.reduceSub])
  refine aqP (op_move rfl rfl) ?_
  refine' aqAnd' [_, _, _] [12,13,14] rfl rfl rfl rfl rfl rfl rfl rfl rfl rfl rfl rfl (fun hb => ?_) ?_; rotate_left
  ·
   (try simp only [hcS] at hb)
   (refine aqP (op_fa_ptr rfl rfl rfl fl31_2 (by exact sz3) (by decide) rfl) ?_)
   (refine aqR (op_load_ptr1 rfl rfl rfl rfl ag3 rfl rfl) ?_)
   refine aqQ (op_callQ (b := true) rfl en43 (C43) (RL.cons (by exact View.same rfl) (RL.cons (by exact View.same rfl) (RL.cons (by exact View.same rfl) (RL.nil)))) rfl) ?_; (simp only [nA, Nat.reduceBEq, Nat.reduceEqDiff, ↓reduceIte, Nat.reduceAdd, Nat.reduceSub])
   (refine aqSeg rfl rfl rfl ?_; repeat (first | exact fun _ _ => rfl | refine upd_out rfl ?_))
  (simp only [nA, Nat.reduceBEq, Nat.reduceEqDiff, ↓reduceIte, Nat.reduceAdd, Nat.reduceSub])
  refine aqP (op_assign rfl rfl) ?_
  refine AQ.nil ?_
  (refine hK _ ?_; clear hK K; (simp only [nA, Nat.reduceBEq, Nat.reduceEqDiff, ↓reduceIte, Nat.reduceAdd, Nat.reduceSub]))
  skip
  refine AW.ret ?_; exact RQ.of0 rfl (.tmp (Nat.le_of_ble_eq_true rfl) rfl rfl .nil)
def opB (o : Op) : Bool := if (!inB o.time 0 1048576 || !inB o.device 1 6) || !inB o.seq 1 1048576 then false else ((decide (o.kind = 1) || decide (o.kind = 2)) && inB o.cont 1 999) && piB o.piece
theorem C20 {o : Op} : Fn Try.prog 20 [] [.agg o.av] [.v (.bool (opB o))] [] := by
  refine Spec.body Try.func20 rfl Try.ntmps20 (by simp) rfl ?_; intro S0 own0 v0 w0
  (refine AW.seq_k ?_; intro K hK)
  refine AW.region ?_
  refine awJ (op_box rfl rfl rfl sz33 rfl) ?_; (simp only [nA, Nat.reduceBEq, Nat.reduceEqDiff, ↓reduceIte, Nat.reduceAdd, Nat.reduceSub])
  refine awP (op_assign rfl rfl) ?_
  refine AWL.nil ?_
  (refine hK _ ?_; clear hK K; (simp only [nA, Nat.reduceBEq, Nat.reduceEqDiff, ↓reduceIte, Nat.reduceAdd, Nat.reduceSub]))
  (refine AW.seq_k ?_; intro K hK)
  (refine AW.seq_k ?_; intro K hK)
  refine AW.region (AWL.quiet ?_)
  (refine aqP (op_fa_ptr rfl rfl rfl fl33_0 (by exact sz3) (by decide) rfl) ?_)
  (refine aqR (op_load_ptr1 rfl rfl rfl rfl ag3 rfl rfl) ?_)
  refine aqQ (op_callQ (b := true) rfl en43 (C43) (RL.cons (by exact View.same rfl) (RL.cons (by exact View.same rfl) (RL.cons (by exact View.same rfl) (RL.nil)))) rfl) ?_; (simp only [nA, Nat.reduceBEq, Nat.reduceEqDiff, ↓reduceIte, Nat.reduceAdd, Nat.reduceSub])
  refine aqP (op_not rfl rfl rfl) ?_
  refine aqP (op_move rfl rfl) ?_
  refine' aqOr' [_, _, _, _] [8,9,10,11] rfl rfl rfl rfl rfl rfl rfl rfl rfl rfl rfl rfl (fun hb => ?_) ?_; rotate_left
  ·
   (try simp only [hcS] at hb)
   (refine aqP (op_fa_ptr rfl rfl rfl fl33_1 (by exact sz3) (by decide) rfl) ?_)
   (refine aqR (op_load_ptr1 rfl rfl rfl rfl ag3 rfl rfl) ?_)
   refine aqQ (op_callQ (b := true) rfl en43 (C43) (RL.cons (by exact View.same rfl) (RL.cons (by exact View.same rfl) (RL.cons (by exact View.same rfl) (RL.nil)))) rfl) ?_; (simp only [nA, Nat.reduceBEq, Nat.reduceEqDiff, ↓reduceIte, Nat.reduceAdd, Nat.reduceSub])
   refine aqP (op_not rfl rfl rfl) ?_
   (refine aqSeg rfl rfl rfl ?_; repeat (first | exact fun _ _ => rfl | refine upd_out rfl ?_))
  (simp only [nA, Nat.reduceBEq, Nat.reduceEqDiff, ↓reduceIte, Nat.reduceAdd, Nat.reduceSub])
  refine aqP (op_move rfl rfl) ?_
  refine' aqOr' [_, _, _, _] [14,15,16,17] rfl rfl rfl rfl rfl rfl rfl rfl rfl rfl rfl rfl (fun hb => ?_) ?_; rotate_left
  ·
   (try simp only [hcS] at hb)
   (refine aqP (op_fa_ptr rfl rfl rfl fl33_2 (by exact sz3) (by decide) rfl) ?_)
   (refine aqR (op_load_ptr1 rfl rfl rfl rfl ag3 rfl rfl) ?_)
   refine aqQ (op_callQ (b := true) rfl en43 (C43) (RL.cons (by exact View.same rfl) (RL.cons (by exact View.same rfl) (RL.cons (by exact View.same rfl) (RL.nil)))) rfl) ?_; (simp only [nA, Nat.reduceBEq, Nat.reduceEqDiff, ↓reduceIte, Nat.reduceAdd, Nat.reduceSub])
   refine aqP (op_not rfl rfl rfl) ?_
   (refine aqSeg rfl rfl rfl ?_; repeat (first | exact fun _ _ => rfl | refine upd_out rfl ?_))
  (simp only [nA, Nat.reduceBEq, Nat.reduceEqDiff, ↓reduceIte, Nat.reduceAdd, Nat.reduceSub])
  refine AQ.nil ?_
  (refine hK _ ?_; clear hK K; (skip))
  refine AW.cond rfl rfl rfl (fun hc => ?_) (fun hc => ?_)
  ·
   (try simp only [hcS] at hc); have hc1 := hc; skip
   (refine AW.seq_k ?_; intro K hK)
   refine AW.region ?_
   refine awP (op_assign rfl rfl) ?_
   refine AWL.nil ?_
   (refine hK _ ?_; clear hK K; (simp only [nA, Nat.reduceBEq, Nat.reduceEqDiff, ↓reduceIte, Nat.reduceAdd, Nat.reduceSub]))
   skip
   refine AW.ret ?_; (simp only [thenE, inBlk, Nat.reduceEqDiff, ↓reduceIte]); rw [show opB o = false by unfold opB; rw [if_pos (by simpa using hc)]]; exact RQ.of0 rfl (.tmp (Nat.le_of_ble_eq_true rfl) rfl rfl .nil)
  ·
   (try simp only [hcS] at hc); have hc1 := hc; skip
   refine AW.skip ?_
   (refine hK _ ?_; clear hK K; (skip))
   (refine AW.seq_k ?_; intro K hK)
   refine AW.region (AWL.quiet ?_)
   (refine aqP (op_fa_ptr rfl rfl rfl fl33_3 (by exact sz3) (by decide) rfl) ?_)
   (refine aqR (op_load_ptr1 rfl rfl rfl rfl ag3 rfl rfl) ?_)
   (refine aqP (op_eql rfl rfl rfl) ?_)
   refine aqP (op_move rfl rfl) ?_
   refine' aqOr' [_, _, _] [23,24,25] rfl rfl rfl rfl rfl rfl rfl rfl rfl rfl rfl rfl (fun hb => ?_) ?_; rotate_left
   ·
    (try simp only [hcS] at hb)
    (refine aqP (op_fa_ptr rfl rfl rfl fl33_3 (by exact sz3) (by decide) rfl) ?_)
    (refine aqR (op_load_ptr1 rfl rfl rfl rfl ag3 rfl rfl) ?_)
    (refine aqP (op_eql rfl rfl rfl) ?_)
    (refine aqSeg rfl rfl rfl ?_; repeat (first | exact fun _ _ => rfl | refine upd_out rfl ?_))
   (simp only [nA, Nat.reduceBEq, Nat.reduceEqDiff, ↓reduceIte, Nat.reduceAdd, Nat.reduceSub])
   refine aqP (op_move rfl rfl) ?_
   refine' aqAnd' [_, _, _] [28,29,30] rfl rfl rfl rfl rfl rfl rfl rfl rfl rfl rfl rfl (fun hb => ?_) ?_; rotate_left
   ·
    (try simp only [hcS] at hb)
    (refine aqP (op_fa_ptr rfl rfl rfl fl33_4 (by exact sz3) (by decide) rfl) ?_)
    (refine aqR (op_load_ptr1 rfl rfl rfl rfl ag3 rfl rfl) ?_)
    refine aqQ (op_callQ (b := true) rfl en43 (C43) (RL.cons (by exact View.same rfl) (RL.cons (by exact View.same rfl) (RL.cons (by exact View.same rfl) (RL.nil)))) rfl) ?_; (simp only [nA, Nat.reduceBEq, Nat.reduceEqDiff, ↓reduceIte, Nat.reduceAdd, Nat.reduceSub])
    (refine aqSeg rfl rfl rfl ?_; repeat (first | exact fun _ _ => rfl | refine upd_out rfl ?_))
   (simp only [nA, Nat.reduceBEq, Nat.reduceEqDiff, ↓reduceIte, Nat.reduceAdd, Nat.reduceSub])
   refine aqP (op_move rfl rfl) ?_
   refine' aqAnd' [_, _, _] [33,34,35] rfl rfl rfl rfl rfl rfl rfl rfl rfl rfl rfl rfl (fun hb => ?_) ?_; rotate_left
   ·
    (try simp only [hcS] at hb)
    (refine aqP (op_fa_ptr rfl rfl rfl fl33_5 (by exact sz31) (by decide) rfl) ?_)
    (refine aqR (op_load_ptr rfl rfl rfl rfl ag31 sz31 (Nat.le_of_ble_eq_true rfl) rfl) ?_)
    refine aqQ (op_callQ (b := true) rfl en54 (C54 (p := o.piece)) (RL.cons (by exact View.same rfl) (RL.nil)) rfl) ?_; (simp only [nA, Nat.reduceBEq, Nat.reduceEqDiff, ↓reduceIte, Nat.reduceAdd, Nat.reduceSub])
    (refine aqSeg rfl rfl rfl ?_; repeat (first | exact fun _ _ => rfl | refine upd_out rfl ?_))
   (simp only [nA, Nat.reduceBEq, Nat.reduceEqDiff, ↓reduceIte, Nat.reduceAdd, Nat.reduceSub])
   refine aqP (op_assign rfl rfl) ?_
   refine AQ.nil ?_
   (refine hK _ ?_; clear hK K; (simp only [nA, Nat.reduceBEq, Nat.reduceEqDiff, ↓reduceIte, Nat.reduceAdd, Nat.reduceSub]))
   skip
   refine AW.ret ?_; rw [show opB o = (((decide (o.kind = 1) || decide (o.kind = 2)) && inB o.cont 1 999) && piB o.piece) by unfold opB; rw [if_neg (by simpa using hc1)]]; exact RQ.of0 rfl (.tmp (Nat.le_of_ble_eq_true rfl) rfl rfl .nil)
def opR (o : Op) : Bool := (((((((((decide (o.time ≥ 0) && decide (o.time ≤ 1048576)) && decide (o.device ≥ 1)) && decide (o.device ≤ 6)) && decide (o.seq ≥ 1)) && decide (o.seq ≤ 1048576)) && (decide (o.kind = 1) || decide (o.kind = 2))) && decide (o.cont ≥ 1)) && decide (o.cont ≤ 999))) && piB o.piece
theorem opR_eq (o : Op) : opR o = opB o := by
  unfold opR opB inB
  generalize decide (o.time ≥ 0) = b1
  generalize decide (o.time ≤ 1048576) = b2
  generalize decide (o.device ≥ 1) = b3
  generalize decide (o.device ≤ 6) = b4
  generalize decide (o.seq ≥ 1) = b5
  generalize decide (o.seq ≤ 1048576) = b6
  cases b1 <;> cases b2 <;> cases b3 <;> cases b4 <;> cases b5 <;> cases b6 <;> simp [Bool.and_assoc]
theorem C21r {o : Op} : Fn Try.prog 21 [] [.agg o.av] [.v (.bool (opR o))] [] := by
  refine Spec.body Try.func21 rfl Try.ntmps21 (by simp) rfl ?_; intro S0 own0 v0 w0
  (refine AW.seq_k ?_; intro K hK)
  refine AW.region ?_
  refine awJ (op_box rfl rfl rfl sz33 rfl) ?_; (simp only [nA, Nat.reduceBEq, Nat.reduceEqDiff, ↓reduceIte, Nat.reduceAdd, Nat.reduceSub])
  refine awP (op_assign rfl rfl) ?_
  refine AWL.nil ?_
  (refine hK _ ?_; clear hK K; (simp only [nA, Nat.reduceBEq, Nat.reduceEqDiff, ↓reduceIte, Nat.reduceAdd, Nat.reduceSub]))
  (refine AW.seq_k ?_; intro K hK)
  refine AW.region (AWL.quiet ?_)
  (refine aqP (op_fa_ptr rfl rfl rfl fl33_0 (by exact sz3) (by decide) rfl) ?_)
  (refine aqR (op_load_ptr1 rfl rfl rfl rfl ag3 rfl rfl) ?_)
  refine aqP (op_geq rfl rfl rfl) ?_
  refine aqP (op_move rfl rfl) ?_
  refine' aqAnd' [_, _, _] [7,8,9] rfl rfl rfl rfl rfl rfl rfl rfl rfl rfl rfl rfl (fun hb => ?_) ?_; rotate_left
  ·
   (try simp only [hcS] at hb)
   (refine aqP (op_fa_ptr rfl rfl rfl fl33_0 (by exact sz3) (by decide) rfl) ?_)
   (refine aqR (op_load_ptr1 rfl rfl rfl rfl ag3 rfl rfl) ?_)
   refine aqP (op_leq rfl rfl rfl) ?_
   (refine aqSeg rfl rfl rfl ?_; repeat (first | exact fun _ _ => rfl | refine upd_out rfl ?_))
  (simp only [nA, Nat.reduceBEq, Nat.reduceEqDiff, ↓reduceIte, Nat.reduceAdd, Nat.reduceSub])
  refine aqP (op_move rfl rfl) ?_
  refine' aqAnd' [_, _, _] [12,13,14] rfl rfl rfl rfl rfl rfl rfl rfl rfl rfl rfl rfl (fun hb => ?_) ?_; rotate_left
  ·
   (try simp only [hcS] at hb)
   (refine aqP (op_fa_ptr rfl rfl rfl fl33_1 (by exact sz3) (by decide) rfl) ?_)
   (refine aqR (op_load_ptr1 rfl rfl rfl rfl ag3 rfl rfl) ?_)
   refine aqP (op_geq rfl rfl rfl) ?_
   (refine aqSeg rfl rfl rfl ?_; repeat (first | exact fun _ _ => rfl | refine upd_out rfl ?_))
  (simp only [nA, Nat.reduceBEq, Nat.reduceEqDiff, ↓reduceIte, Nat.reduceAdd, Nat.reduceSub])
  refine aqP (op_move rfl rfl) ?_
  refine' aqAnd' [_, _, _] [17,18,19] rfl rfl rfl rfl rfl rfl rfl rfl rfl rfl rfl rfl (fun hb => ?_) ?_; rotate_left
  ·
   (try simp only [hcS] at hb)
   (refine aqP (op_fa_ptr rfl rfl rfl fl33_1 (by exact sz3) (by decide) rfl) ?_)
   (refine aqR (op_load_ptr1 rfl rfl rfl rfl ag3 rfl rfl) ?_)
   refine aqP (op_leq rfl rfl rfl) ?_
   (refine aqSeg rfl rfl rfl ?_; repeat (first | exact fun _ _ => rfl | refine upd_out rfl ?_))
  (simp only [nA, Nat.reduceBEq, Nat.reduceEqDiff, ↓reduceIte, Nat.reduceAdd, Nat.reduceSub])
  refine aqP (op_move rfl rfl) ?_
  refine' aqAnd' [_, _, _] [22,23,24] rfl rfl rfl rfl rfl rfl rfl rfl rfl rfl rfl rfl (fun hb => ?_) ?_; rotate_left
  ·
   (try simp only [hcS] at hb)
   (refine aqP (op_fa_ptr rfl rfl rfl fl33_2 (by exact sz3) (by decide) rfl) ?_)
   (refine aqR (op_load_ptr1 rfl rfl rfl rfl ag3 rfl rfl) ?_)
   refine aqP (op_geq rfl rfl rfl) ?_
   (refine aqSeg rfl rfl rfl ?_; repeat (first | exact fun _ _ => rfl | refine upd_out rfl ?_))
  (simp only [nA, Nat.reduceBEq, Nat.reduceEqDiff, ↓reduceIte, Nat.reduceAdd, Nat.reduceSub])
  refine aqP (op_move rfl rfl) ?_
  refine' aqAnd' [_, _, _] [27,28,29] rfl rfl rfl rfl rfl rfl rfl rfl rfl rfl rfl rfl (fun hb => ?_) ?_; rotate_left
  ·
   (try simp only [hcS] at hb)
   (refine aqP (op_fa_ptr rfl rfl rfl fl33_2 (by exact sz3) (by decide) rfl) ?_)
   (refine aqR (op_load_ptr1 rfl rfl rfl rfl ag3 rfl rfl) ?_)
   refine aqP (op_leq rfl rfl rfl) ?_
   (refine aqSeg rfl rfl rfl ?_; repeat (first | exact fun _ _ => rfl | refine upd_out rfl ?_))
  (simp only [nA, Nat.reduceBEq, Nat.reduceEqDiff, ↓reduceIte, Nat.reduceAdd, Nat.reduceSub])
  refine aqP (op_move rfl rfl) ?_
  refine' aqAndN' [_, _, _, _, _, _, _, _] [32,33,34,35,36,37,38,39] rfl rfl rfl rfl rfl rfl rfl rfl rfl rfl rfl rfl (fun hb => ?_) ?_; rotate_left
  ·
   (try simp only [hcS] at hb)
   (refine aqP (op_fa_ptr rfl rfl rfl fl33_3 (by exact sz3) (by decide) rfl) ?_)
   (refine aqR (op_load_ptr1 rfl rfl rfl rfl ag3 rfl rfl) ?_)
   (refine aqP (op_eql rfl rfl rfl) ?_)
   refine aqP (op_move rfl rfl) ?_
   refine' aqOr' [_, _, _] [36,37,38] rfl rfl rfl rfl rfl rfl rfl rfl rfl rfl rfl rfl (fun hb => ?_) ?_; rotate_left
   ·
    (try simp only [hcS] at hb)
    (refine aqP (op_fa_ptr rfl rfl rfl fl33_3 (by exact sz3) (by decide) rfl) ?_)
    (refine aqR (op_load_ptr1 rfl rfl rfl rfl ag3 rfl rfl) ?_)
    (refine aqP (op_eql rfl rfl rfl) ?_)
    (refine aqSeg rfl rfl rfl ?_; repeat (first | exact fun _ _ => rfl | refine upd_out rfl ?_))
   (simp only [nA, Nat.reduceBEq, Nat.reduceEqDiff, ↓reduceIte, Nat.reduceAdd, Nat.reduceSub])
   (refine aqSeg rfl rfl rfl ?_; repeat (first | exact fun _ _ => rfl | refine upd_out rfl ?_ | refine era_out rfl ?_))
  (simp only [nA, Nat.reduceBEq, Nat.reduceEqDiff, ↓reduceIte, Nat.reduceAdd, Nat.reduceSub])
  refine aqP (op_move rfl rfl) ?_
  refine' aqAnd' [_, _, _] [42,43,44] rfl rfl rfl rfl rfl rfl rfl rfl rfl rfl rfl rfl (fun hb => ?_) ?_; rotate_left
  ·
   (try simp only [hcS] at hb)
   (refine aqP (op_fa_ptr rfl rfl rfl fl33_4 (by exact sz3) (by decide) rfl) ?_)
   (refine aqR (op_load_ptr1 rfl rfl rfl rfl ag3 rfl rfl) ?_)
   refine aqP (op_geq rfl rfl rfl) ?_
   (refine aqSeg rfl rfl rfl ?_; repeat (first | exact fun _ _ => rfl | refine upd_out rfl ?_))
  (simp only [nA, Nat.reduceBEq, Nat.reduceEqDiff, ↓reduceIte, Nat.reduceAdd, Nat.reduceSub])
  refine aqP (op_move rfl rfl) ?_
  refine' aqAnd' [_, _, _] [47,48,49] rfl rfl rfl rfl rfl rfl rfl rfl rfl rfl rfl rfl (fun hb => ?_) ?_; rotate_left
  ·
   (try simp only [hcS] at hb)
   (refine aqP (op_fa_ptr rfl rfl rfl fl33_4 (by exact sz3) (by decide) rfl) ?_)
   (refine aqR (op_load_ptr1 rfl rfl rfl rfl ag3 rfl rfl) ?_)
   refine aqP (op_leq rfl rfl rfl) ?_
   (refine aqSeg rfl rfl rfl ?_; repeat (first | exact fun _ _ => rfl | refine upd_out rfl ?_))
  (simp only [nA, Nat.reduceBEq, Nat.reduceEqDiff, ↓reduceIte, Nat.reduceAdd, Nat.reduceSub])
  refine aqP (op_move rfl rfl) ?_
  refine' aqAnd' [_, _, _] [52,53,54] rfl rfl rfl rfl rfl rfl rfl rfl rfl rfl rfl rfl (fun hb => ?_) ?_; rotate_left
  ·
   (try simp only [hcS] at hb)
   (refine aqP (op_fa_ptr rfl rfl rfl fl33_5 (by exact sz31) (by decide) rfl) ?_)
   (refine aqR (op_load_ptr rfl rfl rfl rfl ag31 sz31 (Nat.le_of_ble_eq_true rfl) rfl) ?_)
   refine aqQ (op_callQ (b := true) rfl en55 (C55 (p := o.piece)) (RL.cons (by exact View.same rfl) (RL.nil)) rfl) ?_; (simp only [nA, Nat.reduceBEq, Nat.reduceEqDiff, ↓reduceIte, Nat.reduceAdd, Nat.reduceSub])
   (refine aqSeg rfl rfl rfl ?_; repeat (first | exact fun _ _ => rfl | refine upd_out rfl ?_))
  (simp only [nA, Nat.reduceBEq, Nat.reduceEqDiff, ↓reduceIte, Nat.reduceAdd, Nat.reduceSub])
  refine aqP (op_assign rfl rfl) ?_
  refine AQ.nil ?_
  (refine hK _ ?_; clear hK K; (simp only [nA, Nat.reduceBEq, Nat.reduceEqDiff, ↓reduceIte, Nat.reduceAdd, Nat.reduceSub]))
  skip
  refine AW.ret ?_; exact RQ.of0 rfl (.tmp (Nat.le_of_ble_eq_true rfl) rfl rfl .nil)
theorem C21 {o : Op} : Fn Try.prog 21 [] [.agg o.av] [.v (.bool (opB o))] [] := by
  rw [← opR_eq]; exact C21r
def grB (g : Grant) : Bool := piB g.piece && flB g.flight
theorem C62 {g : Grant} : Fn Try.prog 62 [] [.agg g.av] [.v (.bool (grB g))] [] := by
  refine Spec.body Try.func62 rfl Try.ntmps62 (by simp) rfl ?_; intro S0 own0 v0 w0
  (refine AW.seq_k ?_; intro K hK)
  refine AW.region ?_
  refine awJ (op_box rfl rfl rfl sz75 rfl) ?_; (simp only [nA, Nat.reduceBEq, Nat.reduceEqDiff, ↓reduceIte, Nat.reduceAdd, Nat.reduceSub])
  refine awP (op_assign rfl rfl) ?_
  refine AWL.nil ?_
  (refine hK _ ?_; clear hK K; (simp only [nA, Nat.reduceBEq, Nat.reduceEqDiff, ↓reduceIte, Nat.reduceAdd, Nat.reduceSub]))
  (refine AW.seq_k ?_; intro K hK)
  refine AW.region (AWL.quiet ?_)
  (refine aqP (op_fa_ptr rfl rfl rfl fl75_0 (by exact sz31) (by decide) rfl) ?_)
  (refine aqR (op_load_ptr rfl rfl rfl rfl ag31 sz31 (Nat.le_of_ble_eq_true rfl) rfl) ?_)
  refine aqQ (op_callQ (b := true) rfl en54 (C54 (p := g.piece)) (RL.cons (by exact View.same rfl) (RL.nil)) rfl) ?_; (simp only [nA, Nat.reduceBEq, Nat.reduceEqDiff, ↓reduceIte, Nat.reduceAdd, Nat.reduceSub])
  refine aqP (op_move rfl rfl) ?_
  refine' aqAnd' [_, _, _] [7,8,9] rfl rfl rfl rfl rfl rfl rfl rfl rfl rfl rfl rfl (fun hb => ?_) ?_; rotate_left
  ·
   (try simp only [hcS] at hb)
   (refine aqP (op_fa_ptr rfl rfl rfl fl75_1 (by exact sz73) (by decide) rfl) ?_)
   (refine aqR (op_load_ptr rfl rfl rfl rfl ag73 sz73 (Nat.le_of_ble_eq_true rfl) rfl) ?_)
   refine aqQ (op_callQ (b := true) rfl en80 (C80 (f := g.flight)) (RL.cons (by exact View.same rfl) (RL.nil)) rfl) ?_; (simp only [nA, Nat.reduceBEq, Nat.reduceEqDiff, ↓reduceIte, Nat.reduceAdd, Nat.reduceSub])
   (refine aqSeg rfl rfl rfl ?_; repeat (first | exact fun _ _ => rfl | refine upd_out rfl ?_))
  (simp only [nA, Nat.reduceBEq, Nat.reduceEqDiff, ↓reduceIte, Nat.reduceAdd, Nat.reduceSub])
  refine aqP (op_assign rfl rfl) ?_
  refine AQ.nil ?_
  (refine hK _ ?_; clear hK K; (simp only [nA, Nat.reduceBEq, Nat.reduceEqDiff, ↓reduceIte, Nat.reduceAdd, Nat.reduceSub]))
  skip
  refine AW.ret ?_; exact RQ.of0 rfl (.tmp (Nat.le_of_ble_eq_true rfl) rfl rfl .nil)
theorem C67 {g : Grant} : Fn Try.prog 67 [] [.agg g.av] [.v (.bool (grB g))] [] := by
  refine Spec.body Try.func67 rfl Try.ntmps67 (by simp) rfl ?_; intro S0 own0 v0 w0
  (refine AW.seq_k ?_; intro K hK)
  refine AW.region ?_
  refine awJ (op_box rfl rfl rfl sz75 rfl) ?_; (simp only [nA, Nat.reduceBEq, Nat.reduceEqDiff, ↓reduceIte, Nat.reduceAdd, Nat.reduceSub])
  refine awP (op_assign rfl rfl) ?_
  refine AWL.nil ?_
  (refine hK _ ?_; clear hK K; (simp only [nA, Nat.reduceBEq, Nat.reduceEqDiff, ↓reduceIte, Nat.reduceAdd, Nat.reduceSub]))
  (refine AW.seq_k ?_; intro K hK)
  refine AW.region (AWL.quiet ?_)
  (refine aqP (op_fa_ptr rfl rfl rfl fl75_0 (by exact sz31) (by decide) rfl) ?_)
  (refine aqR (op_load_ptr rfl rfl rfl rfl ag31 sz31 (Nat.le_of_ble_eq_true rfl) rfl) ?_)
  refine aqQ (op_callQ (b := true) rfl en55 (C55 (p := g.piece)) (RL.cons (by exact View.same rfl) (RL.nil)) rfl) ?_; (simp only [nA, Nat.reduceBEq, Nat.reduceEqDiff, ↓reduceIte, Nat.reduceAdd, Nat.reduceSub])
  refine aqP (op_move rfl rfl) ?_
  refine' aqAnd' [_, _, _] [7,8,9] rfl rfl rfl rfl rfl rfl rfl rfl rfl rfl rfl rfl (fun hb => ?_) ?_; rotate_left
  ·
   (try simp only [hcS] at hb)
   (refine aqP (op_fa_ptr rfl rfl rfl fl75_1 (by exact sz73) (by decide) rfl) ?_)
   (refine aqR (op_load_ptr rfl rfl rfl rfl ag73 sz73 (Nat.le_of_ble_eq_true rfl) rfl) ?_)
   refine aqQ (op_callQ (b := true) rfl en85 (C85 (f := g.flight)) (RL.cons (by exact View.same rfl) (RL.nil)) rfl) ?_; (simp only [nA, Nat.reduceBEq, Nat.reduceEqDiff, ↓reduceIte, Nat.reduceAdd, Nat.reduceSub])
   (refine aqSeg rfl rfl rfl ?_; repeat (first | exact fun _ _ => rfl | refine upd_out rfl ?_))
  (simp only [nA, Nat.reduceBEq, Nat.reduceEqDiff, ↓reduceIte, Nat.reduceAdd, Nat.reduceSub])
  refine aqP (op_assign rfl rfl) ?_
  refine AQ.nil ?_
  (refine hK _ ?_; clear hK K; (simp only [nA, Nat.reduceBEq, Nat.reduceEqDiff, ↓reduceIte, Nat.reduceAdd, Nat.reduceSub]))
  skip
  refine AW.ret ?_; exact RQ.of0 rfl (.tmp (Nat.le_of_ble_eq_true rfl) rfl rfl .nil)
def numB (h : Hand) : Bool := (inB h.number 1 6 && inB h.next 1 1048576) && inB h.last 0 1048576
theorem C46 {h : Hand} : Fn Try.prog 46 [] [.agg h.av] [.v (.bool (numB h))] [] := by
  refine Spec.body Try.func46 rfl Try.ntmps46 (by simp) rfl ?_; intro S0 own0 v0 w0
  (refine AW.seq_k ?_; intro K hK)
  refine AW.region ?_
  refine awJ (op_box rfl rfl rfl sz87 rfl) ?_; (simp only [nA, Nat.reduceBEq, Nat.reduceEqDiff, ↓reduceIte, Nat.reduceAdd, Nat.reduceSub])
  refine awP (op_assign rfl rfl) ?_
  refine AWL.nil ?_
  (refine hK _ ?_; clear hK K; (simp only [nA, Nat.reduceBEq, Nat.reduceEqDiff, ↓reduceIte, Nat.reduceAdd, Nat.reduceSub]))
  (refine AW.seq_k ?_; intro K hK)
  refine AW.region (AWL.quiet ?_)
  (refine aqP (op_fa_ptr rfl rfl rfl fl87_0 (by exact sz3) (by decide) rfl) ?_)
  (refine aqR (op_load_ptr1 rfl rfl rfl rfl ag3 rfl rfl) ?_)
  refine aqQ (op_callQ (b := true) rfl en43 (C43) (RL.cons (by exact View.same rfl) (RL.cons (by exact View.same rfl) (RL.cons (by exact View.same rfl) (RL.nil)))) rfl) ?_; (simp only [nA, Nat.reduceBEq, Nat.reduceEqDiff, ↓reduceIte, Nat.reduceAdd, Nat.reduceSub])
  refine aqP (op_move rfl rfl) ?_
  refine' aqAnd' [_, _, _] [7,8,9] rfl rfl rfl rfl rfl rfl rfl rfl rfl rfl rfl rfl (fun hb => ?_) ?_; rotate_left
  ·
   (try simp only [hcS] at hb)
   (refine aqP (op_fa_ptr rfl rfl rfl fl87_1 (by exact sz3) (by decide) rfl) ?_)
   (refine aqR (op_load_ptr1 rfl rfl rfl rfl ag3 rfl rfl) ?_)
   refine aqQ (op_callQ (b := true) rfl en43 (C43) (RL.cons (by exact View.same rfl) (RL.cons (by exact View.same rfl) (RL.cons (by exact View.same rfl) (RL.nil)))) rfl) ?_; (simp only [nA, Nat.reduceBEq, Nat.reduceEqDiff, ↓reduceIte, Nat.reduceAdd, Nat.reduceSub])
   (refine aqSeg rfl rfl rfl ?_; repeat (first | exact fun _ _ => rfl | refine upd_out rfl ?_))
  (simp only [nA, Nat.reduceBEq, Nat.reduceEqDiff, ↓reduceIte, Nat.reduceAdd, Nat.reduceSub])
  refine aqP (op_move rfl rfl) ?_
  refine' aqAnd' [_, _, _] [12,13,14] rfl rfl rfl rfl rfl rfl rfl rfl rfl rfl rfl rfl (fun hb => ?_) ?_; rotate_left
  ·
   (try simp only [hcS] at hb)
   (refine aqP (op_fa_ptr rfl rfl rfl fl87_2 (by exact sz3) (by decide) rfl) ?_)
   (refine aqR (op_load_ptr1 rfl rfl rfl rfl ag3 rfl rfl) ?_)
   refine aqQ (op_callQ (b := true) rfl en43 (C43) (RL.cons (by exact View.same rfl) (RL.cons (by exact View.same rfl) (RL.cons (by exact View.same rfl) (RL.nil)))) rfl) ?_; (simp only [nA, Nat.reduceBEq, Nat.reduceEqDiff, ↓reduceIte, Nat.reduceAdd, Nat.reduceSub])
   (refine aqSeg rfl rfl rfl ?_; repeat (first | exact fun _ _ => rfl | refine upd_out rfl ?_))
  (simp only [nA, Nat.reduceBEq, Nat.reduceEqDiff, ↓reduceIte, Nat.reduceAdd, Nat.reduceSub])
  refine aqP (op_assign rfl rfl) ?_
  refine AQ.nil ?_
  (refine hK _ ?_; clear hK K; (simp only [nA, Nat.reduceBEq, Nat.reduceEqDiff, ↓reduceIte, Nat.reduceAdd, Nat.reduceSub]))
  skip
  refine AW.ret ?_; exact RQ.of0 rfl (.tmp (Nat.le_of_ble_eq_true rfl) rfl rfl .nil)
def barB (h : Hand) : Bool := h.offline || decide (((h.grants.length : Int) + h.conts.length) + h.log.length = 0)
theorem C47 {h : Hand} (hs : h.Sm) : Fn Try.prog 47 [] [.agg h.av] [.v (.bool (barB h))] [] := by
  have h1 := hs.g; have h2 := hs.c; have h3 := hs.l
  refine Spec.body Try.func47 rfl Try.ntmps47 (by simp) rfl ?_; intro S0 own0 v0 w0
  (refine AW.seq_k ?_; intro K hK)
  refine AW.region ?_
  refine awJ (op_box rfl rfl rfl sz87 rfl) ?_; (simp only [nA, Nat.reduceBEq, Nat.reduceEqDiff, ↓reduceIte, Nat.reduceAdd, Nat.reduceSub])
  refine awP (op_assign rfl rfl) ?_
  refine AWL.nil ?_
  (refine hK _ ?_; clear hK K; (simp only [nA, Nat.reduceBEq, Nat.reduceEqDiff, ↓reduceIte, Nat.reduceAdd, Nat.reduceSub]))
  (refine AW.seq_k ?_; intro K hK)
  refine AW.region (AWL.quiet ?_)
  (refine aqP (op_fa_ptr rfl rfl rfl fl87_3 (by exact sz4) (by decide) rfl) ?_)
  (refine aqR (op_load_ptr1 rfl rfl rfl rfl ag4 rfl rfl) ?_)
  refine aqP (op_move rfl rfl) ?_
  refine' aqOr' [_, _, _, _, _, _, _, _, _, _, _, _] [6,7,8,9,10,11,12,13,14,15,16,17] rfl rfl rfl rfl rfl rfl rfl rfl rfl rfl rfl rfl (fun hb => ?_) ?_; rotate_left
  ·
   (try simp only [hcS] at hb)
   (refine aqP (op_fa_ptr rfl rfl rfl fl87_4 (by exact sz22) (by decide) rfl) ?_)
   (refine aqR (op_load_ptr1 rfl rfl rfl rfl ag22 rfl rfl) ?_)
   refine aqP (op_len_ro (n := h.grants.length) rfl rfl Try.underlying22 (.inr (.inl ⟨_, rfl, by simp⟩))) ?_
   (refine aqP (op_fa_ptr rfl rfl rfl fl87_5 (by exact sz23) (by decide) rfl) ?_)
   (refine aqR (op_load_ptr1 rfl rfl rfl rfl ag23 rfl rfl) ?_)
   refine aqP (op_len_ro (n := h.conts.length) rfl rfl Try.underlying23 (.inr (.inl ⟨_, rfl, by simp⟩))) ?_
   (refine aqP (op_addi rfl rfl rfl (by omega)) ?_)
   (refine aqP (op_fa_ptr rfl rfl rfl fl87_6 (by exact sz24) (by decide) rfl) ?_)
   (refine aqR (op_load_ptr1 rfl rfl rfl rfl ag24 rfl rfl) ?_)
   refine aqP (op_len_ro (n := h.log.length) rfl rfl Try.underlying24 (.inr (.inl ⟨_, rfl, by simp⟩))) ?_
   (refine aqP (op_addi rfl rfl rfl (by omega)) ?_)
   (refine aqP (op_eql rfl rfl rfl) ?_)
   (refine aqSeg rfl rfl rfl ?_; repeat (first | exact fun _ _ => rfl | refine upd_out rfl ?_))
  (simp only [nA, Nat.reduceBEq, Nat.reduceEqDiff, ↓reduceIte, Nat.reduceAdd, Nat.reduceSub])
  refine aqP (op_assign rfl rfl) ?_
  refine AQ.nil ?_
  (refine hK _ ?_; clear hK K; (simp only [nA, Nat.reduceBEq, Nat.reduceEqDiff, ↓reduceIte, Nat.reduceAdd, Nat.reduceSub]))
  skip
  refine AW.ret ?_; exact RQ.of0 rfl (.tmp (Nat.le_of_ble_eq_true rfl) rfl rfl .nil)
end Go.Proofs.Ytdnofpggdddimaa
namespace Go.Proofs.Ytdnofpggdddimaa
open Go.RowKit
set_option linter.unusedSimpArgs false
set_option linter.unusedVariables false
set_option maxRecDepth 100000
theorem bl_loop (a : ByteArray) : ∀ (n i : Nat) (r : List UInt8), a.size - i = n → ByteArray.toList.loop a i r = r.reverse ++ a.data.toList.drop i
  | 0, i, r, h => by
    have hs : a.data.toList.length = a.size := by rw [Array.length_toList]; rfl
    unfold ByteArray.toList.loop
    rw [if_neg (by omega), List.drop_eq_nil_of_le (by omega), List.append_nil]
  | n + 1, i, r, h => by
    have hs : a.data.toList.length = a.size := by rw [Array.length_toList]; rfl
    have hi : i < a.data.toList.length := by omega
    unfold ByteArray.toList.loop
    rw [if_pos (by omega), bl_loop a n (i + 1) _ (by omega), List.drop_eq_getElem_cons hi]
    have : a.get! i = a.data.toList[i] := by
      show a.data[i]! = _
      rw [getElem!_pos a.data i (by simpa using hi)]
      simp
    rw [this, List.reverse_cons, List.append_assoc]
    rfl
theorem bl_inj {a b : ByteArray} (h : a.toList = b.toList) : a = b := by
  unfold ByteArray.toList at h
  rw [bl_loop a _ 0 [] rfl, bl_loop b _ 0 [] rfl] at h
  exact bytes_ext (by simpa using h)
theorem flEq_iff {f g : Flight} : flEq f g = true ↔ f = g := by
  obtain ⟨a, b, c, d⟩ := f
  obtain ⟨a', b', c', d'⟩ := g
  unfold flEq
  simp only [Bool.and_eq_true, beq_iff_eq, Flight.mk.injEq]
  constructor
  · rintro ⟨h1, h2, h3, h4⟩; exact ⟨bl_inj h1, h2, bl_inj h3, h4⟩
  · rintro ⟨h1, h2, h3, h4⟩; exact ⟨by rw [h1], h2, by rw [h3], h4⟩
theorem spot_iff {c d : Container} : spotOf d = spotOf c ↔ d.flight = c.flight ∧ d.position = c.position := by
  unfold spotOf
  obtain ⟨n, ⟨a, b, s, e⟩, _, _, _, p, _, _⟩ := c
  obtain ⟨n', ⟨a', b', s', e'⟩, _, _, _, p', _, _⟩ := d
  simp only [Spot.mk.injEq, Flight.mk.injEq]
  constructor
  · rintro ⟨h1, h2, h3, h4, h5⟩; exact ⟨⟨bytes_ext h1, h2, bytes_ext h3, h4⟩, h5⟩
  · rintro ⟨⟨h1, h2, h3, h4⟩, h5⟩; exact ⟨by rw [h1], h2, by rw [h3], h4, h5⟩
theorem run_eq73 (p q : Flight) (w : World) : (binOp .eql 73 (.agg #[.string p.carrier, .int .i64 p.number, .string p.suffix, .int .i64 p.day]) (.agg #[.string q.carrier, .int .i64 q.number, .string q.suffix, .int .i64 q.day])).run Try.prog w = .ok (.bool (flEq p q)) w := by
  obtain ⟨a, b, c, d⟩ := p
  obtain ⟨a', b', c', d'⟩ := q
  unfold binOp
  simp only [Op.equal]
  rw [Sem.run_bind, show Op.maxDepth = 9998 + 1 + 1 from rfl, run_equalIn_struct w _ 73 _ _ fo73 st73]
  unfold Program.fieldsOf; rw [Try.underlying73]
  simp only [Op.eqFields]
  go_simp
  unfold flEq
  by_cases h1 : a.toList = a'.toList <;> by_cases h2 : b = b' <;> by_cases h3 : c.toList = c'.toList <;> by_cases h4 : d = d' <;> simp [h1, h2, h3, h4]
theorem run_tye73 (p q : Operand) (x y : Array Value) (w : World) : (eqGuard .eql 73 p q (.agg x) (.agg y)).run Try.prog w = .ok () w := by
  unfold eqGuard
  simp [ty73, run_program]
section
variable {S0 : Nat → Prop} {own0 : List Nat} {v0 : List Value} {w0 : World} {o : Oper} {ev : Operand → AV} {T : Sl} {yt : TypeId} {y z : Operand}
theorem op_eq73 {p q : Flight} (ho : o.op = .binOp .eql 73 y z yt) (hy : ev y = .agg p.av) (hz : ev z = .agg q.av) : OpP ⟨Try.prog, S0, own0, v0, w0⟩ o ev T (.v (.bool (flEq p q))) :=
  op_bin_agg (xs := [.string p.carrier, .int .i64 p.number, .string p.suffix, .int .i64 p.day]) (ys := [.string q.carrier, .int .i64 q.number, .string q.suffix, .int .i64 q.day]) ho hy hz (fun w => run_tye73 _ _ _ _ w) (fun w => run_eq73 p q w) rfl
end
def Seen (xs : List Container) (i : Nat) (sp : List Container) (pl : List Plate) : Prop :=
  chk (prevN xs i) (xs.drop i) sp pl = chk none xs [] [] ∧ (∀ s, s ∈ sp.map spotOf ↔ ∃ c ∈ xs.take i, c.position ≠ 0 ∧ spotOf c = s) ∧ ∀ p, p ∈ pl ↔ ∃ c ∈ xs.take i, hasB c.pieces p = true
theorem seen_zero (xs : List Container) : Seen xs 0 [] [] := ⟨rfl, fun s => by simp, fun p => by simp⟩
theorem seen_step {xs : List Container} {i : Nat} {sp : List Container} {pl : List Plate} {c : Container} (hS : Seen xs i sp pl) (hci : xs[i]? = some c) :
    chk none xs [] [] = (if valC c ≠ 0 then valC c else if prevBad (prevN xs i) c.number = true then 9 else if c.position ≠ 0 ∧ spotOf c ∈ sp.map spotOf then 7 else
      match chkP c.pieces pl with
      | none => 5
      | some pl' => chk (some c.number) (xs.drop (i + 1)) (if c.position ≠ 0 then c :: sp else sp) pl') := by
  rw [← hS.1, drop_cons hci]
  rfl
theorem chkP_no : ∀ (l : List Piece) (pl : List Plate), (∃ x ∈ l, x.plate ∈ pl) → chkP l pl = none
  | [], _, ⟨x, hx, _⟩ => by cases hx
  | y :: l, pl, ⟨x, hx, h⟩ => by
    rw [chkP_cons]
    by_cases hy : y.plate ∈ pl
    · rw [if_pos hy]
    · rw [if_neg hy]
      rcases List.mem_cons.1 hx with rfl | hx
      · exact absurd h hy
      · exact chkP_no l _ ⟨x, hx, List.mem_cons_of_mem _ h⟩
theorem chkP_yes : ∀ (l : List Piece) (pl : List Plate), AscP l → (∀ x ∈ l, x.plate ∉ pl) → ∃ pl', chkP l pl = some pl' ∧ ∀ q, q ∈ pl' ↔ q ∈ pl ∨ ∃ x ∈ l, x.plate = q
  | [], pl, _, _ => ⟨pl, rfl, fun q => by simp⟩
  | y :: l, pl, ha, hn => by
    have ha' := List.pairwise_cons.1 ha
    obtain ⟨pl', h1, h2⟩ := chkP_yes l (y.plate :: pl) ha'.2 fun x hx hm => by
      rcases List.mem_cons.1 hm with hm | hm
      · have := ha'.1 x hx
        rw [hm] at this
        exact PLt.irrefl _ this
      · exact hn x (List.mem_cons_of_mem _ hx) hm
    refine ⟨pl', by rw [chkP_cons, if_neg (hn y (by simp))]; exact h1, fun q => ?_⟩
    rw [h2 q]
    simp only [List.mem_cons, exists_eq_or_imp]
    constructor
    · rintro ((h | h) | h)
      · exact .inr (.inl h.symm)
      · exact .inl h
      · exact .inr (.inr h)
    · rintro (h | h | h)
      · exact .inl (.inr h)
      · exact .inl (.inl h.symm)
      · exact .inr h
theorem take_mem {xs : List Container} {i : Nat} {c d : Container} (hci : xs[i]? = some c) : d ∈ xs.take (i + 1) ↔ d ∈ xs.take i ∨ d = c := by
  rw [List.take_add_one, hci, List.mem_append]
  simp
theorem seen_next {xs : List Container} {i : Nat} {sp : List Container} {pl pl' : List Plate} {c : Container} (hS : Seen xs i sp pl) (hci : xs[i]? = some c)
    (hR : chk none xs [] [] = chk (some c.number) (xs.drop (i + 1)) (if c.position ≠ 0 then c :: sp else sp) pl') (hp : ∀ q, q ∈ pl' ↔ q ∈ pl ∨ ∃ x ∈ c.pieces, x.plate = q) : ∃ sp pl, Seen xs (i + 1) sp pl := by
  refine ⟨_, pl', by rw [prevN_succ hci]; exact hR.symm, fun s => ?_, fun q => ?_⟩
  · have h2 := hS.2.1 s
    constructor
    · intro h
      by_cases h0 : c.position ≠ 0
      · rw [if_pos h0, List.map_cons, List.mem_cons] at h
        rcases h with h | h
        · exact ⟨c, (take_mem hci).2 (.inr rfl), h0, h.symm⟩
        · obtain ⟨d, hd, h3⟩ := h2.1 h
          exact ⟨d, (take_mem hci).2 (.inl hd), h3⟩
      · rw [if_neg h0] at h
        obtain ⟨d, hd, h3⟩ := h2.1 h
        exact ⟨d, (take_mem hci).2 (.inl hd), h3⟩
    · rintro ⟨d, hd, h3, h4⟩
      rcases (take_mem hci).1 hd with hd | rfl
      · have := h2.2 ⟨d, hd, h3, h4⟩
        split
        · exact List.mem_cons_of_mem _ this
        · exact this
      · rw [if_pos h3, List.map_cons]; exact List.mem_cons.2 (.inl h4.symm)
  · rw [hp q, hS.2.2 q]
    constructor
    · rintro (⟨d, hd, h⟩ | h)
      · exact ⟨d, (take_mem hci).2 (.inl hd), h⟩
      · exact ⟨c, (take_mem hci).2 (.inr rfl), hasB_iff.2 h⟩
    · rintro ⟨d, hd, h⟩
      rcases (take_mem hci).1 hd with hd | rfl
      · exact .inl ⟨d, hd, h⟩
      · exact .inr (hasB_iff.1 h)
theorem findL_snd {xs : List Container} {p : Plate} : (findL xs p).2 = true ↔ ∃ c ∈ xs, hasB c.pieces p = true := by
  unfold findL
  cases h : xs.find? fun c => hasB c.pieces p with
  | none =>
    rw [List.find?_eq_none] at h
    constructor
    · intro h; cases h
    · rintro ⟨c, hc, h2⟩; exact absurd h2 (h c hc)
  | some c => exact ⟨fun _ => ⟨c, List.mem_of_find?_eq_some h, List.find?_some (p := fun (d : Container) => hasB d.pieces p) h⟩, fun _ => rfl⟩
theorem mem_takeI {xs : List Container} {i k : Nat} (h : k < xs.length) (hk : k < i) : xs[k] ∈ xs.take i := by
  rw [show xs[k] = (xs.take i)[k]'(by simp; omega) by simp]
  exact List.getElem_mem _
set_option maxHeartbeats 4000000 in
theorem C52 {xs : List Container} (hx : xs.length ≤ 1000000) (hb : ∀ c ∈ xs, c.pieces.length ≤ 1000000000) : Fn Try.prog 52 [] [.ro (xs.map Container.av)] [.v (.int .i64 (chkL xs))] [] := by
  refine Spec.body Try.func52 rfl Try.ntmps52 (by simp) rfl ?_; intro S0 own0 v0 w0
  (refine AW.seq_k ?_; intro K hK)
  refine AW.region ?_
  refine awP (op_assign rfl rfl) ?_
  refine AWL.nil ?_
  (refine hK _ ?_; clear hK K; (simp only [nA, Nat.reduceBEq, Nat.reduceEqDiff, ↓reduceIte, Nat.reduceAdd, Nat.reduceSub]))
  (refine AW.seq_k ?_; intro K hK)
  (refine AW.seq_k ?_; intro K hK)
  refine AW.region ?_
  refine awP (op_move rfl rfl) ?_
  (refine awP (op_len_ro rfl rfl Try.underlying23 (by exact .inr (.inl ⟨_, rfl, rfl⟩))) ?_)
  refine awP (op_gtr rfl rfl rfl) ?_
  refine AWL.nil ?_
  (refine hK _ ?_; clear hK K; (simp only [nA, Nat.reduceBEq, Nat.reduceEqDiff, ↓reduceIte, Nat.reduceAdd, Nat.reduceSub]))
  refine AW.cond rfl rfl rfl (fun hc => ?_) (fun hc => ?_)
  ·
   (try simp only [hcS] at hc); have hc1 := hc; skip
   (refine AW.seq_k ?_; intro K hK)
   refine AW.region ?_
   refine awP (op_assign rfl rfl) ?_
   refine AWL.nil ?_
   (refine hK _ ?_; clear hK K; (simp only [nA, Nat.reduceBEq, Nat.reduceEqDiff, ↓reduceIte, Nat.reduceAdd, Nat.reduceSub]))
   skip
   refine AW.ret ?_; (simp only [thenE, inBlk, Nat.reduceEqDiff, ↓reduceIte]); rw [show chkL xs = 2 by unfold chkL; rw [if_pos (by omega)]]; exact RQ.of0 rfl (.tmp (Nat.le_of_ble_eq_true rfl) rfl rfl .nil)
  ·
   (try simp only [hcS] at hc); have hc1 := hc; have hL : chkL xs = chk none xs [] [] := (by unfold chkL; rw [if_neg (by omega)])
   refine AW.skip ?_
   (refine hK _ ?_; clear hK K; (skip))
   (refine AW.seq_k ?_; intro K hK)
   (refine AW.seq_k ?_; intro K hK)
   refine AW.region ?_
   refine awP (op_assign rfl rfl) ?_
   refine AWL.nil ?_
   (refine hK _ ?_; clear hK K; (simp only [nA, Nat.reduceBEq, Nat.reduceEqDiff, ↓reduceIte, Nat.reduceAdd, Nat.reduceSub]))
   refine AW.block ?_
   refine AW.loopI (fun (i : Nat) => [(0, .ro (xs.map Container.av)), (3, .v (.int .i64 (i : Nat)))]) (fun _ => ⟨[], 1⟩) (fun i => i ≤ xs.length ∧ ∃ sp pl, Seen xs i sp pl) (fun i => xs.length - i) 0 ⟨Nat.zero_le _, _, _, seen_zero xs⟩ ⟨rfl, rfl, trivial⟩ rfl ?_; rintro i ρ ⟨hi, sp, pl, hS⟩; simp only [updL]
   (refine AW.seq_k ?_; intro K hK)
   (refine AW.seq_k ?_; intro K hK)
   refine AW.region ?_
   refine awP (op_move rfl rfl) ?_
   refine awP (op_move rfl rfl) ?_
   (refine awP (op_len_ro rfl rfl Try.underlying23 (by exact .inr (.inl ⟨_, rfl, rfl⟩))) ?_)
   refine awP (op_lss rfl rfl rfl) ?_
   refine AWL.nil ?_
   (refine hK _ ?_; clear hK K; (simp only [nA, Nat.reduceBEq, Nat.reduceEqDiff, ↓reduceIte, Nat.reduceAdd, Nat.reduceSub]))
   refine AW.cond rfl rfl rfl (fun hc => ?_) (fun hc => ?_)
   ·
    (try simp only [hcS] at hc); have hc2 := hc; have hlt : i < xs.length := (by simpa using hc2); obtain ⟨c, hci⟩ : ∃ c, xs[i]? = some c := ⟨xs[i], List.getElem?_eq_getElem hlt⟩; have hR := seen_step hS hci
    refine AW.skip ?_
    (refine hK _ ?_; clear hK K; (skip))
    (refine AW.seq_k ?_; intro K hK)
    refine AW.block ?_
    (refine AW.seq_k ?_; intro K hK)
    (refine AW.seq_k ?_; intro K hK)
    refine AW.region ?_
    refine awP (op_move rfl rfl) ?_
    refine awP (op_move rfl rfl) ?_
    (refine awP (op_ia_ro i rfl (.inl rfl) rfl Try.underlying23 rfl (get_of hci) (by exact sz77) (Nat.le_of_ble_eq_true rfl)) ?_)
    (refine awR (op_load_rop rfl rfl ag77 sz77 (Nat.le_of_ble_eq_true rfl) (by decide) rfl) ?_)
    refine awJ (OpQ.j (op_callQ (b := true) rfl en70 (C70 (c := c)) (RL.cons (by exact View.same rfl) (RL.nil)) rfl)) ?_; (simp only [nA, Nat.reduceBEq, Nat.reduceEqDiff, ↓reduceIte, Nat.reduceAdd, Nat.reduceSub])
    refine awP (op_assign rfl rfl) ?_
    refine AWL.nil ?_
    (refine hK _ ?_; clear hK K; (simp only [nA, Nat.reduceBEq, Nat.reduceEqDiff, ↓reduceIte, Nat.reduceAdd, Nat.reduceSub]))
    (refine AW.seq_k ?_; intro K hK)
    refine AW.region ?_
    refine awP (op_move rfl rfl) ?_
    (refine awP (op_neq rfl rfl rfl) ?_)
    refine AWL.nil ?_
    (refine hK _ ?_; clear hK K; (simp only [nA, Nat.reduceBEq, Nat.reduceEqDiff, ↓reduceIte, Nat.reduceAdd, Nat.reduceSub]))
    refine AW.cond rfl rfl rfl (fun hc => ?_) (fun hc => ?_)
    ·
     (try simp only [hcS] at hc); have hc3 := hc; skip
     (refine AW.seq_k ?_; intro K hK)
     refine AW.region ?_
     refine awP (op_move rfl rfl) ?_
     refine awP (op_assign rfl rfl) ?_
     refine AWL.nil ?_
     (refine hK _ ?_; clear hK K; (simp only [nA, Nat.reduceBEq, Nat.reduceEqDiff, ↓reduceIte, Nat.reduceAdd, Nat.reduceSub]))
     skip
     refine AW.ret ?_; (simp only [thenE, inBlk, Nat.reduceEqDiff, ↓reduceIte]); rw [hL, hR, if_pos (by simpa using hc3)]; exact RQ.of0 rfl (.tmp (Nat.le_of_ble_eq_true rfl) rfl rfl .nil)
    ·
     (try simp only [hcS] at hc); have hc3 := hc; have hv0 : valC c = 0 := (by simpa using hc3); have hv := val_inv hv0; rw [if_neg (by simp [hv0])] at hR
     refine AW.skip ?_
     (refine hK _ ?_; clear hK K; (skip))
     (refine AW.seq_k ?_; intro K hK)
     (refine AW.seq_k ?_; intro K hK)
     refine AW.quiet mix (by kernel_rfl) ?_
     refine aqP (op_move rfl rfl) ?_
     refine aqP (op_gtr rfl rfl rfl) ?_
     refine aqP (op_move rfl rfl) ?_
     refine' aqAnd' [_, _, _, _, _, _, _, _, _, _, _, _] [29,30,31,32,33,34,35,36,37,38,39,40] rfl rfl rfl rfl rfl rfl rfl rfl rfl rfl rfl rfl (fun hb => ?_) ?_; rotate_left
     ·
      (try simp only [hcS] at hb)
      refine aqP (op_move rfl rfl) ?_
      refine aqP (op_move rfl rfl) ?_
      (refine aqP (op_ia_ro i rfl (.inl rfl) rfl Try.underlying23 rfl (get_of hci) (by exact sz77) (Nat.le_of_ble_eq_true rfl)) ?_)
      (refine aqP (op_fa_rop rfl rfl fl77_0 (by exact sz3) (by decide) (Nat.le_of_ble_eq_true rfl) rfl) ?_)
      (refine aqR (op_load_rop1 rfl rfl ag3) ?_)
      refine aqP (op_move rfl rfl) ?_
      refine aqP (op_move rfl rfl) ?_
      (refine aqP (op_subi rfl rfl rfl (by omega)) ?_)
      (refine aqP (op_ia_ro (i - 1) rfl (.inl rfl) rfl Try.underlying23 (by omega) (get_mapD (by omega)) (by exact sz77) (Nat.le_of_ble_eq_true rfl)) ?_)
      (refine aqP (op_fa_rop rfl rfl fl77_0 (by exact sz3) (by decide) (Nat.le_of_ble_eq_true rfl) rfl) ?_)
      (refine aqR (op_load_rop1 rfl rfl ag3) ?_)
      refine aqP (op_leq rfl rfl rfl) ?_
      (refine aqSeg rfl rfl rfl ?_; repeat (first | exact fun _ _ => rfl | refine upd_out rfl ?_))
     (simp only [nA, Nat.reduceBEq, Nat.reduceEqDiff, ↓reduceIte, Nat.reduceAdd, Nat.reduceSub])
     refine AQ.nil ?_
     (refine hK _ ?_; clear hK K; (skip))
     refine AW.cond rfl rfl rfl (fun hc => ?_) (fun hc => ?_)
     ·
      (try simp only [hcS] at hc); have hc4 := hc; skip
      (refine AW.seq_k ?_; intro K hK)
      refine AW.region ?_
      refine awP (op_assign rfl rfl) ?_
      refine AWL.nil ?_
      (refine hK _ ?_; clear hK K; (simp only [nA, Nat.reduceBEq, Nat.reduceEqDiff, ↓reduceIte, Nat.reduceAdd, Nat.reduceSub]))
      skip
      refine AW.ret ?_; (simp only [thenE, inBlk, Nat.reduceEqDiff, ↓reduceIte]); rw [if_pos (by rw [prevBad_eq]; simpa using hc)] at hR; rw [hL, hR]; exact RQ.of0 rfl (.tmp (Nat.le_of_ble_eq_true rfl) rfl rfl .nil)
     ·
      (try simp only [hcS] at hc); have hc4 := hc; rw [if_neg (by rw [prevBad_eq]; simp only [Bool.and_eq_true, decide_eq_true_eq]; omega)] at hR
      refine AW.skip ?_
      (refine hK _ ?_; clear hK K; (skip))
      (refine AW.seq_k ?_; intro K hK)
      (refine AW.seq_k ?_; intro K hK)
      refine AW.region ?_
      refine awP (op_assign rfl rfl) ?_
      refine AWL.nil ?_
      (refine hK _ ?_; clear hK K; (simp only [nA, Nat.reduceBEq, Nat.reduceEqDiff, ↓reduceIte, Nat.reduceAdd, Nat.reduceSub]))
      refine AW.block ?_
      refine AW.loopI (fun (j : Nat) => [(0, .ro (xs.map Container.av)), (3, .v (.int .i64 (i : Nat))), (5, .v (.int .i64 (j : Nat)))]) (fun _ => ⟨[], 1⟩) (fun j => j ≤ i ∧ ∀ k (h : k < xs.length), k < j → ¬ (c.position ≠ 0 ∧ spotOf xs[k] = spotOf c)) (fun j => i - j) 0 ⟨by simp, by simp⟩ ⟨rfl, rfl, rfl, trivial⟩ rfl ?_; intro j ρ hJ; simp only [updL]
      (refine AW.seq_k ?_; intro K hK)
      (refine AW.seq_k ?_; intro K hK)
      refine AW.region ?_
      refine awP (op_move rfl rfl) ?_
      refine awP (op_move rfl rfl) ?_
      refine awP (op_lss rfl rfl rfl) ?_
      refine AWL.nil ?_
      (refine hK _ ?_; clear hK K; (simp only [nA, Nat.reduceBEq, Nat.reduceEqDiff, ↓reduceIte, Nat.reduceAdd, Nat.reduceSub]))
      refine AW.cond rfl rfl rfl (fun hc => ?_) (fun hc => ?_)
      ·
       (try simp only [hcS] at hc); have hc5 := hc; have hji : j < i := (by omega); have hjl : j < xs.length := (by omega); obtain ⟨d, hdj⟩ : ∃ d, xs[j]? = some d := ⟨xs[j], List.getElem?_eq_getElem hjl⟩; have hde := (List.getElem?_eq_some_iff.1 hdj).2
       refine AW.skip ?_
       (refine hK _ ?_; clear hK K; (skip))
       (refine AW.seq_k ?_; intro K hK)
       refine AW.block ?_
       (refine AW.seq_k ?_; intro K hK)
       refine AW.quiet mix (by kernel_rfl) ?_
       refine aqP (op_move rfl rfl) ?_
       refine aqP (op_move rfl rfl) ?_
       (refine aqP (op_ia_ro i rfl (.inl rfl) rfl Try.underlying23 rfl (get_of hci) (by exact sz77) (Nat.le_of_ble_eq_true rfl)) ?_)
       (refine aqP (op_fa_rop rfl rfl fl77_5 (by exact sz3) (by decide) (Nat.le_of_ble_eq_true rfl) rfl) ?_)
       (refine aqR (op_load_rop1 rfl rfl ag3) ?_)
       (refine aqP (op_neq rfl rfl rfl) ?_)
       refine aqP (op_move rfl rfl) ?_
       refine' aqAnd' [_, _, _, _, _, _, _, _, _, _, _] [54,55,56,57,58,59,60,61,62,63,64] rfl rfl rfl rfl rfl rfl rfl rfl rfl rfl rfl rfl (fun hb => ?_) ?_; rotate_left
       ·
        (try simp only [hcS] at hb)
        refine aqP (op_move rfl rfl) ?_
        refine aqP (op_move rfl rfl) ?_
        (refine aqP (op_ia_ro j rfl (.inl rfl) rfl Try.underlying23 rfl (get_of hdj) (by exact sz77) (Nat.le_of_ble_eq_true rfl)) ?_)
        (refine aqP (op_fa_rop rfl rfl fl77_5 (by exact sz3) (by decide) (Nat.le_of_ble_eq_true rfl) rfl) ?_)
        (refine aqR (op_load_rop1 rfl rfl ag3) ?_)
        refine aqP (op_move rfl rfl) ?_
        refine aqP (op_move rfl rfl) ?_
        (refine aqP (op_ia_ro i rfl (.inl rfl) rfl Try.underlying23 rfl (get_of hci) (by exact sz77) (Nat.le_of_ble_eq_true rfl)) ?_)
        (refine aqP (op_fa_rop rfl rfl fl77_5 (by exact sz3) (by decide) (Nat.le_of_ble_eq_true rfl) rfl) ?_)
        (refine aqR (op_load_rop1 rfl rfl ag3) ?_)
        (refine aqP (op_eql rfl rfl rfl) ?_)
        (refine aqSeg rfl rfl rfl ?_; repeat (first | exact fun _ _ => rfl | refine upd_out rfl ?_))
       (simp only [nA, Nat.reduceBEq, Nat.reduceEqDiff, ↓reduceIte, Nat.reduceAdd, Nat.reduceSub])
       refine aqP (op_move rfl rfl) ?_
       refine' aqAnd' [_, _, _, _, _, _, _, _, _, _, _] [67,68,69,70,71,72,73,74,75,76,77] rfl rfl rfl rfl rfl rfl rfl rfl rfl rfl rfl rfl (fun hb => ?_) ?_; rotate_left
       ·
        (try simp only [hcS] at hb)
        refine aqP (op_move rfl rfl) ?_
        refine aqP (op_move rfl rfl) ?_
        (refine aqP (op_ia_ro j rfl (.inl rfl) rfl Try.underlying23 rfl (get_of hdj) (by exact sz77) (Nat.le_of_ble_eq_true rfl)) ?_)
        (refine aqP (op_fa_rop rfl rfl fl77_1 (by exact sz73) (by decide) (Nat.le_of_ble_eq_true rfl) rfl) ?_)
        (refine aqR (op_load_rop rfl rfl ag73 sz73 (Nat.le_of_ble_eq_true rfl) (by decide) rfl) ?_)
        refine aqP (op_move rfl rfl) ?_
        refine aqP (op_move rfl rfl) ?_
        (refine aqP (op_ia_ro i rfl (.inl rfl) rfl Try.underlying23 rfl (get_of hci) (by exact sz77) (Nat.le_of_ble_eq_true rfl)) ?_)
        (refine aqP (op_fa_rop rfl rfl fl77_1 (by exact sz73) (by decide) (Nat.le_of_ble_eq_true rfl) rfl) ?_)
        (refine aqR (op_load_rop rfl rfl ag73 sz73 (Nat.le_of_ble_eq_true rfl) (by decide) rfl) ?_)
        refine aqP (op_eq73 rfl rfl rfl) ?_; (simp only [nA, Nat.reduceBEq, Nat.reduceEqDiff, ↓reduceIte, Nat.reduceAdd, Nat.reduceSub])
        (refine aqSeg rfl rfl rfl ?_; repeat (first | exact fun _ _ => rfl | refine upd_out rfl ?_))
       (simp only [nA, Nat.reduceBEq, Nat.reduceEqDiff, ↓reduceIte, Nat.reduceAdd, Nat.reduceSub])
       refine AQ.nil ?_
       (refine hK _ ?_; clear hK K; (skip))
       refine AW.cond rfl rfl rfl (fun hc => ?_) (fun hc => ?_)
       ·
        (try simp only [hcS] at hc); have hc6 := hc; skip
        (refine AW.seq_k ?_; intro K hK)
        refine AW.region ?_
        refine awP (op_assign rfl rfl) ?_
        refine AWL.nil ?_
        (refine hK _ ?_; clear hK K; (simp only [nA, Nat.reduceBEq, Nat.reduceEqDiff, ↓reduceIte, Nat.reduceAdd, Nat.reduceSub]))
        skip
        refine AW.ret ?_; (simp only [thenE, inBlk, Nat.reduceEqDiff, ↓reduceIte]); rw [if_pos ⟨hc6.1.1, (hS.2.1 _).2 ⟨d, by rw [← hde]; exact mem_takeI hjl hji, by rw [hc6.1.2]; exact hc6.1.1, spot_iff.2 ⟨flEq_iff.1 hc6.2, hc6.1.2⟩⟩⟩] at hR; rw [hL, hR]; exact RQ.of0 rfl (.tmp (Nat.le_of_ble_eq_true rfl) rfl rfl .nil)
       ·
        (try simp only [hcS] at hc); have hc6 := hc; skip
        refine AW.skip ?_
        (simp only [thenE, inBlk, Nat.reduceEqDiff, ↓reduceIte])
        (refine hK _ ?_; clear hK K; (skip))
        refine AW.region ?_
        refine awP (op_move rfl rfl) ?_
        (refine awP (op_addi rfl rfl rfl (by omega)) ?_)
        refine awP (op_assign rfl rfl) ?_
        skip
        refine AWL.nil ?_
        refine ⟨j + 1, ⟨by omega, fun k h hk => by rcases Nat.lt_or_ge k j with h' | h'; exact hJ.2 k h h'; (obtain rfl : k = j := by omega); rintro ⟨h0, h1⟩; rw [hde, spot_iff] at h1; exact absurd (flEq_iff.2 h1.1) (by simpa [h0, h1.2] using hc6)⟩, by omega, ⟨rfl, rfl, rfl, trivial⟩, (by rfl), (by rfl)⟩
      ·
       (try simp only [hcS] at hc); have hc5 := hc; obtain rfl : i = j := (by omega); rw [if_neg (show ¬ (c.position ≠ 0 ∧ spotOf c ∈ sp.map spotOf) from fun ⟨h0, h1⟩ => by obtain ⟨d, hd, h3, h4⟩ := (hS.2.1 _).1 h1; obtain ⟨k, hk, rfl⟩ := List.getElem_of_mem hd; rw [List.getElem_take] at h4; exact hJ.2 k (by simp at hk; omega) (by simp at hk; omega) ⟨h0, h4⟩)] at hR
       refine AW.exit ?_; (simp only [thenE, inBlk, Nat.reduceEqDiff, ↓reduceIte])
       clear hK K
       (refine hK _ ?_; clear hK K; (skip))
       (refine AW.seq_k ?_; intro K hK)
       refine AW.region ?_
       refine awP (op_assign rfl rfl) ?_
       refine AWL.nil ?_
       (refine hK _ ?_; clear hK K; (simp only [nA, Nat.reduceBEq, Nat.reduceEqDiff, ↓reduceIte, Nat.reduceAdd, Nat.reduceSub]))
       refine AW.block ?_
       refine AW.loopI (fun (j : Nat) => [(0, .ro (xs.map Container.av)), (3, .v (.int .i64 (i : Nat))), (6, .v (.int .i64 (j : Nat)))]) (fun _ => ⟨[], 1⟩) (fun j => j ≤ c.pieces.length ∧ ∀ k (h : k < c.pieces.length), k < j → c.pieces[k].plate ∉ pl) (fun j => c.pieces.length - j) 0 ⟨by simp, by simp⟩ ⟨rfl, rfl, rfl, trivial⟩ rfl ?_; intro j ρ hJ; simp only [updL]
       (refine AW.seq_k ?_; intro K hK)
       (refine AW.seq_k ?_; intro K hK)
       refine AW.region ?_
       refine awP (op_move rfl rfl) ?_
       refine awP (op_move rfl rfl) ?_
       refine awP (op_move rfl rfl) ?_
       (refine awP (op_ia_ro i rfl (.inl rfl) rfl Try.underlying23 rfl (get_of hci) (by exact sz77) (Nat.le_of_ble_eq_true rfl)) ?_)
       (refine awP (op_fa_rop rfl rfl fl77_7 (by exact sz53) (by decide) (Nat.le_of_ble_eq_true rfl) rfl) ?_)
       (refine awR (op_load_rop1 rfl rfl ag53) ?_)
       (refine awP (op_len_ro rfl rfl Try.underlying53 (by exact .inr (.inl ⟨_, rfl, rfl⟩))) ?_)
       refine awP (op_lss rfl rfl rfl) ?_
       refine AWL.nil ?_
       (refine hK _ ?_; clear hK K; (simp only [nA, Nat.reduceBEq, Nat.reduceEqDiff, ↓reduceIte, Nat.reduceAdd, Nat.reduceSub]))
       refine AW.cond rfl rfl rfl (fun hc => ?_) (fun hc => ?_)
       ·
        (try simp only [hcS] at hc); have hc7 := hc; have hjl : j < c.pieces.length := (by simpa using hc7); obtain ⟨p, hpj⟩ : ∃ p, c.pieces[j]? = some p := ⟨c.pieces[j], List.getElem?_eq_getElem hjl⟩; have hpe := (List.getElem?_eq_some_iff.1 hpj).2
        refine AW.skip ?_
        (refine hK _ ?_; clear hK K; (skip))
        (refine AW.seq_k ?_; intro K hK)
        refine AW.block ?_
        (refine AW.seq_k ?_; intro K hK)
        refine AW.ad [] mix rfl ?_
        refine adP 0 rfl (fun T' ok => op_move rfl rfl) (by exact trivial) (by kernel_rfl) (by kernel_rfl) ?_
        refine adP 1 rfl (fun T' ok => op_move rfl rfl) (by exact trivial) (by kernel_rfl) (by kernel_rfl) ?_
        refine adP 2 rfl (fun T' ok => op_slice_ro 0 i rfl (.inl rfl) (by exact rfl) (by exact ⟨_, rfl⟩) (Nat.zero_le _) (by simp; omega) Try.underlying23 sz77 (cav_len xs) (es' := (xs.take i).map Container.av) (by simp [List.map_take])) (by exact trivial) (by kernel_rfl) (by kernel_rfl) ?_; (simp only [nA, Nat.reduceBEq, Nat.reduceEqDiff, ↓reduceIte, Nat.reduceAdd, Nat.reduceSub])
        refine adP 3 rfl (fun T' ok => op_move rfl rfl) (by exact trivial) (by kernel_rfl) (by kernel_rfl) ?_
        refine adP 4 rfl (fun T' ok => op_move rfl rfl) (by exact trivial) (by kernel_rfl) (by kernel_rfl) ?_
        (refine adP 5 rfl (fun T' ok => op_ia_ro i rfl (.inl rfl) rfl Try.underlying23 rfl (get_of hci) (by exact sz77) (Nat.le_of_ble_eq_true rfl)) (by exact trivial) (by kernel_rfl) (by kernel_rfl) ?_)
        (refine adP 6 rfl (fun T' ok => op_fa_rop rfl rfl fl77_7 (by exact sz53) (by decide) (Nat.le_of_ble_eq_true rfl) rfl) (by exact trivial) (by kernel_rfl) (by kernel_rfl) ?_)
        (refine adR 7 rfl (fun T' ok => op_load_rop1 rfl rfl ag53) (by exact trivial) (by kernel_rfl) (by kernel_rfl) ?_)
        refine adP 8 rfl (fun T' ok => op_move rfl rfl) (by exact trivial) (by kernel_rfl) (by kernel_rfl) ?_
        (refine adP 9 rfl (fun T' ok => op_ia_ro j rfl (.inl rfl) rfl Try.underlying53 rfl (get_of hpj) (by exact sz31) (Nat.le_of_ble_eq_true rfl)) (by exact trivial) (by kernel_rfl) (by kernel_rfl) ?_)
        (refine adP 10 rfl (fun T' ok => op_fa_rop rfl rfl fl31_0 (by exact sz29) (by decide) (Nat.le_of_ble_eq_true rfl) rfl) (by exact trivial) (by kernel_rfl) (by kernel_rfl) ?_)
        (refine adR 11 rfl (fun T' ok => op_load_rop rfl rfl ag29 sz29 (Nat.le_of_ble_eq_true rfl) (by decide) rfl) (by exact trivial) (by kernel_rfl) (by kernel_rfl) ?_)
        refine adF 12 rfl (fun T' ok => op_callS rfl en71 (C71 (xs := xs.take i) (p := p.plate) (by simp; omega) (fun d hd => hb d (List.mem_of_mem_take hd))) (RL.cons (by exact View.same rfl) (RL.cons (by exact View.same rfl) (RL.nil))) rfl rfl rfl) (by exact trivial) (by kernel_rfl) (by kernel_rfl) ?_; (simp only [nA, Nat.reduceBEq, Nat.reduceEqDiff, ↓reduceIte, Nat.reduceAdd, Nat.reduceSub])
        refine adP 13 rfl (fun T' ok => op_move rfl rfl) (by exact trivial) (by kernel_rfl) (by kernel_rfl) ?_
        refine adP 14 rfl (fun T' ok => op_extract rfl rfl rfl) (by exact trivial) (by kernel_rfl) (by kernel_rfl) ?_
        refine adP 15 rfl (fun T' ok => op_extract rfl rfl rfl) (by exact trivial) (by kernel_rfl) (by kernel_rfl) ?_
        refine adP 16 rfl (fun T' ok => op_assign rfl rfl) (by exact trivial) (by kernel_rfl) (by kernel_rfl) ?_
        refine adP 17 rfl (fun T' ok => op_assign rfl rfl) (by exact trivial) (by kernel_rfl) (by kernel_rfl) ?_
        refine adDone (by kernel_rfl) ?_
        (refine hK _ ?_; clear hK K; (simp only [nA, Nat.reduceBEq, Nat.reduceEqDiff, ↓reduceIte, Nat.reduceAdd, Nat.reduceSub]))
        (refine AW.seq_k ?_; intro K hK)
        refine AW.region ?_
        refine awP (op_move rfl rfl) ?_
        refine AWL.nil ?_
        (refine hK _ ?_; clear hK K; (simp only [nA, Nat.reduceBEq, Nat.reduceEqDiff, ↓reduceIte, Nat.reduceAdd, Nat.reduceSub]))
        refine AW.cond rfl rfl rfl (fun hc => ?_) (fun hc => ?_)
        ·
         (try simp only [hcS] at hc); have hc8 := hc; skip
         (refine AW.seq_k ?_; intro K hK)
         refine AW.region ?_
         refine awP (op_assign rfl rfl) ?_
         refine AWL.nil ?_
         (refine hK _ ?_; clear hK K; (simp only [nA, Nat.reduceBEq, Nat.reduceEqDiff, ↓reduceIte, Nat.reduceAdd, Nat.reduceSub]))
         skip
         refine AW.ret ?_; (simp only [thenE, inBlk, Nat.reduceEqDiff, ↓reduceIte]); rw [chkP_no c.pieces pl ⟨p, List.mem_of_getElem? hpj, (hS.2.2 _).2 (findL_snd.1 hc8)⟩] at hR; rw [hL, hR]; exact RQ.of0 rfl (.tmp (Nat.le_of_ble_eq_true rfl) rfl rfl .nil)
        ·
         (try simp only [hcS] at hc); have hc8 := hc; skip
         refine AW.skip ?_
         (simp only [thenE, inBlk, Nat.reduceEqDiff, ↓reduceIte])
         (refine hK _ ?_; clear hK K; (skip))
         refine AW.region ?_
         refine awP (op_move rfl rfl) ?_
         (refine awP (op_addi rfl rfl rfl (by omega)) ?_)
         refine awP (op_assign rfl rfl) ?_
         skip
         refine AWL.nil ?_
         refine ⟨j + 1, ⟨by omega, fun k h hk => by rcases Nat.lt_or_ge k j with h' | h'; exact hJ.2 k h h'; (obtain rfl : k = j := by omega); rw [hpe]; intro hm; exact absurd (findL_snd.2 ((hS.2.2 _).1 hm)) (by simpa using hc8)⟩, by omega, ⟨rfl, rfl, rfl, trivial⟩, (by rfl), (by rfl)⟩
       ·
        (try simp only [hcS] at hc); have hc7 := hc; obtain rfl : j = c.pieces.length := (by simp at hc7; omega); obtain ⟨pl', hp1, hp2⟩ := chkP_yes c.pieces pl (ascP_iff.2 hv.2.2.2) (fun x hx => by obtain ⟨k, hk, rfl⟩ := List.getElem_of_mem hx; exact hJ.2 k hk hk); rw [hp1] at hR; simp only at hR
        refine AW.exit ?_; (simp only [thenE, inBlk, Nat.reduceEqDiff, ↓reduceIte])
        clear hK K
        (refine hK _ ?_; clear hK K; (skip))
        refine AW.region ?_
        refine awP (op_move rfl rfl) ?_
        (refine awP (op_addi rfl rfl rfl (by omega)) ?_)
        refine awP (op_assign rfl rfl) ?_
        skip
        refine AWL.nil ?_
        refine ⟨i + 1, ⟨by omega, seen_next hS hci hR hp2⟩, by omega, ⟨rfl, rfl, trivial⟩, (by rfl), (by rfl)⟩
   ·
    (try simp only [hcS] at hc); have hc2 := hc; obtain rfl : i = xs.length := (by simp at hc2; omega); have hR : (0 : Int) = chk none xs [] [] := (by rw [← hS.1, List.drop_length]; unfold chk; rfl)
    refine AW.exit ?_; (simp only [thenE, inBlk, Nat.reduceEqDiff, ↓reduceIte])
    clear hK K
    (refine hK _ ?_; clear hK K; (skip))
    (refine AW.seq_k ?_; intro K hK)
    refine AW.region ?_
    refine awP (op_assign rfl rfl) ?_
    refine AWL.nil ?_
    (refine hK _ ?_; clear hK K; (simp only [nA, Nat.reduceBEq, Nat.reduceEqDiff, ↓reduceIte, Nat.reduceAdd, Nat.reduceSub]))
    skip
    refine AW.ret ?_; rw [hL, ← hR]; exact RQ.of0 rfl (.tmp (Nat.le_of_ble_eq_true rfl) rfl rfl .nil)
end Go.Proofs.Ytdnofpggdddimaa
