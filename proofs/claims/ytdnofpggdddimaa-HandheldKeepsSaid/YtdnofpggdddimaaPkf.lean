import Derived.Test.YtdnofpggdddimaaPke
import Derived.Deep.Slices
import Derived.OpenShut
import Derived.WalkKit
import Derived.ProofKit
namespace Go.Proofs.Ytdnofpggdddimaa
open Go.RowKit
set_option linter.unusedSimpArgs false
set_option linter.unusedVariables false
set_option maxRecDepth 100000
abbrev gr0 (i j : Int) : Grant := ⟨⟨platesP i, 10 + i, 0⟩, flightN j⟩
def grS (l : List Int) : Nat → Nat → Nat → List Grant → Nat × List Grant
  | 0, _, k, a => (k, a)
  | f + 1, i, k, a => if gmod (rawV l k) 2 = 0 then grS l f (i + 1) (rawN l (rawN l k)) (a ++ [gr0 i (gmod (rawV l (rawN l k)) 3)]) else grS l f (i + 1) (rawN l k) a
theorem grS_succ (l : List Int) (f i k : Nat) (a : List Grant) : grS l (f + 1) i k a = if gmod (rawV l k) 2 = 0 then grS l f (i + 1) (rawN l (rawN l k)) (a ++ [gr0 i (gmod (rawV l (rawN l k)) 3)]) else grS l f (i + 1) (rawN l k) a := rfl
theorem C30 {l : List Int} {k0 n : Nat} (hl : l.length ≤ 2000) (hn : n ≤ 100) : Fn Try.prog 30 [.own 81 [srcRow l k0]] [.ptr 0 0 0 0, .v (.int .i64 (n : Nat))] [.ro ((grS l n 0 k0 []).2.map Grant.av)] [.own 81 [srcRow l (grS l n 0 k0 []).1]] := by
  refine Spec.body Try.func30 rfl Try.ntmps30 (by simp) rfl ?_; intro S0 own0 v0 w0
  (refine AW.seq_k ?_; intro K hK)
  refine AW.region ?_
  refine awP (op_assign rfl rfl) ?_
  refine AWL.nil ?_
  (refine hK _ ?_; clear hK K; (try simp only [nA, Nat.reduceBEq, Nat.reduceEqDiff, ↓reduceIte, Nat.reduceAdd, Nat.reduceSub]))
  (refine AW.seq_k ?_; intro K hK)
  refine AW.region ?_
  refine awP (op_assign rfl rfl) ?_
  refine AWL.nil ?_
  (refine hK _ ?_; clear hK K; (try simp only [nA, Nat.reduceBEq, Nat.reduceEqDiff, ↓reduceIte, Nat.reduceAdd, Nat.reduceSub]))
  (refine AW.seq_k ?_; intro K hK)
  (refine AW.seq_k ?_; intro K hK)
  refine AW.region ?_
  refine awP (op_assign rfl rfl) ?_
  refine AWL.nil ?_
  (refine hK _ ?_; clear hK K; (try simp only [nA, Nat.reduceBEq, Nat.reduceEqDiff, ↓reduceIte, Nat.reduceAdd, Nat.reduceSub]))
  refine AW.block ?_
  refine AW.gh (Gh.nil (e := 75) 5 (Nat.le_of_ble_eq_true rfl) rfl sz75) ?_; (try simp only [nA, Nat.reduceBEq, Nat.reduceEqDiff, ↓reduceIte, Nat.reduceAdd, Nat.reduceSub]); refine AW.loopI (fun (q : Nat × Nat × Nat × List Grant × Nat × Nat) => [(0, .ptr 0 0 0 0), (1, .v (.int .i64 (n : Nat))), (5, .sl 1 q.2.2.2.2.1 0 q.2.2.2.1.length), (6, .v (.int .i64 (q.2.1 : Nat)))]) (fun q => ⟨[(0, .own 81 [srcRow l q.2.2.1]), (q.2.2.2.2.1, .own 75 (q.2.2.2.1.map Grant.av))], q.2.2.2.2.2⟩) (fun q => q.1 + q.2.1 = n ∧ q.2.2.2.1.length ≤ q.2.1 ∧ grS l q.1 q.2.1 q.2.2.1 q.2.2.2.1 = grS l n 0 k0 []) (fun q => q.1) (n, 0, k0, [], _, _) ⟨by simp, by simp, rfl⟩ ⟨rfl, rfl, rfl, rfl, trivial⟩ rfl ?_; rintro ⟨f, i, k, a, v, ep⟩ ρ hI; dsimp only at hI ⊢; simp only [updL]; (try simp only [nA, Nat.reduceBEq, Nat.reduceEqDiff, ↓reduceIte, Nat.reduceAdd, Nat.reduceSub])
  (refine AW.seq_k ?_; intro K hK)
  (refine AW.seq_k ?_; intro K hK)
  refine AW.region ?_
  refine awP (op_move rfl rfl) ?_
  refine awP (op_move rfl rfl) ?_
  refine awP (op_lss rfl rfl rfl) ?_
  refine AWL.nil ?_
  (refine hK _ ?_; clear hK K; (try simp only [nA, Nat.reduceBEq, Nat.reduceEqDiff, ↓reduceIte, Nat.reduceAdd, Nat.reduceSub]))
  refine AW.cond rfl rfl rfl (fun hc => ?_) (fun hc => ?_)
  ·
   (try simp only [hcS] at hc); have hc1 := hc; obtain ⟨f, rfl⟩ : ∃ g, f = g + 1 := (by have h : (i : Int) < n := (by simpa using hc1); exact ⟨f - 1, by omega⟩); have hR := hI.2.2; rw [grS_succ] at hR; have hg3 := gmod_bd (x := rawV l (rawN l k)) (n := 3) (by decide)
   refine AW.skip ?_
   (refine hK _ ?_; clear hK K; (try simp only [nA, Nat.reduceBEq, Nat.reduceEqDiff, ↓reduceIte, Nat.reduceAdd, Nat.reduceSub]))
   (refine AW.seq_k ?_; intro K hK)
   refine AW.block ?_
   (refine AW.seq_k ?_; intro K hK)
   refine AW.region ?_
   refine awP (op_move rfl rfl) ?_
   refine awJ (op_call1 rfl en12 (C12 (n := 2) hl (by decide)) (by exact rfl) (RL.cons .ptr (RL.cons (.base (by first | exact View.same rfl | exact View.nil | exact View.rof | exact View.src .ro | exact View.src .rof | exact View.src (.sl rfl rfl) | exact View.ptr rfl rfl rfl)) (RL.nil))) (by exact ⟨_, _, _, rfl, rfl, rfl⟩) (by exact rfl) (by exact rfl) (by exact rfl)) ?_; (try simp only [nA, Nat.reduceBEq, Nat.reduceEqDiff, ↓reduceIte, Nat.reduceAdd, Nat.reduceSub])
   (first | refine awP (op_eql rfl rfl rfl) ?_ | refine awP (op_seql rfl rfl rfl) ?_)
   refine AWL.nil ?_
   (refine hK _ ?_; clear hK K; (try simp only [nA, Nat.reduceBEq, Nat.reduceEqDiff, ↓reduceIte, Nat.reduceAdd, Nat.reduceSub]))
   refine AW.cond rfl rfl rfl (fun hc => ?_) (fun hc => ?_)
   ·
    (try simp only [hcS] at hc); have hc2 := hc; skip
    refine AW.region ?_
    refine awP (op_move rfl rfl) ?_
    refine awP (op_move rfl rfl) ?_
    refine awJ (op_call (b := false) rfl en57 (C57 (i := (i : Nat))) (RL.cons (by first | exact View.same rfl | exact View.nil | exact View.rof | exact View.src .ro | exact View.src .rof | exact View.src (.sl rfl rfl) | exact View.ptr rfl rfl rfl) (RL.nil)) rfl (fun h => by cases h) rfl rfl) ?_; (try simp only [nA, Nat.reduceBEq, Nat.reduceEqDiff, ↓reduceIte, Nat.reduceAdd, Nat.reduceSub])
    refine awP (op_move rfl rfl) ?_
    (first | refine awP (op_addi rfl rfl rfl (by omega)) ?_ | refine awP (op_add rfl rfl rfl rfl) ?_)
    refine awP (op_build2 (xs := [_, _, _, _, .v (.int .i64 0)]) rfl pl31 ze31 [(0, [_, _, _]), (1, [_])] rfl rfl rfl) ?_
    refine awP (op_move rfl rfl) ?_
    refine awJ (op_call1 rfl en12 (C12 (n := 3) hl (by decide)) (by exact rfl) (RL.cons .ptr (RL.cons (.base (by first | exact View.same rfl | exact View.nil | exact View.rof | exact View.src .ro | exact View.src .rof | exact View.src (.sl rfl rfl) | exact View.ptr rfl rfl rfl)) (RL.nil))) (by exact ⟨_, _, _, rfl, rfl, rfl⟩) (by exact rfl) (by exact rfl) (by exact rfl)) ?_; (try simp only [nA, Nat.reduceBEq, Nat.reduceEqDiff, ↓reduceIte, Nat.reduceAdd, Nat.reduceSub])
    refine awJ (op_call (b := false) rfl en45 (C45 _ hg3) (RL.cons (by first | exact View.same rfl | exact View.nil | exact View.rof | exact View.src .ro | exact View.src .rof | exact View.src (.sl rfl rfl) | exact View.ptr rfl rfl rfl) (RL.nil)) rfl (fun h => by cases h) rfl rfl) ?_; (try simp only [nA, Nat.reduceBEq, Nat.reduceEqDiff, ↓reduceIte, Nat.reduceAdd, Nat.reduceSub])
    refine awP (op_build2 (xs := [_, _, _, _, _, _, _, _, _]) rfl pl75 ze75 [(0, [_, _, _, _, _]), (1, [_, _, _, _])] rfl rfl rfl) ?_
    refine awJ (OpJ.frz (op_buildSlice rfl [(0, ((gr0 (i : Nat) (gmod (rawV l (rawN l k)) 3))).av)] [((gr0 (i : Nat) (gmod (rawV l (rawN l k)) 3))).av] Try.underlying22 ze75 rfl (by simp) rfl (by simp) rfl (Nat.le_of_ble_eq_true rfl) (by simp [maxLen])) (gav_flat [(gr0 (i : Nat) (gmod (rawV l (rawN l k)) 3))]) rfl) ?_; (try simp only [nA, Nat.reduceBEq, Nat.reduceEqDiff, ↓reduceIte, Nat.reduceAdd, Nat.reduceSub])
    refine awJ (op_app (r := 1) (rows := [((gr0 (i : Nat) (gmod (rawV l (rawN l k)) 3))).av]) rfl rfl rfl rfl (by simp) .ro Try.underlying22 ze75 (by decide) (gav_len [(gr0 (i : Nat) (gmod (rawV l (rawN l k)) 3))]) (by simp; omega) (by decide) (es' := (a ++ [(gr0 (i : Nat) (gmod (rawV l (rawN l k)) 3))]).map Grant.av) (by simp) (n := (a ++ [(gr0 (i : Nat) (gmod (rawV l (rawN l k)) 3))]).length) (by simp)) ?_; (try simp only [nA, Nat.reduceBEq, Nat.reduceEqDiff, ↓reduceIte, Nat.reduceAdd, Nat.reduceSub])
    refine awP (op_assign rfl rfl) ?_
    refine AWL.nil ?_
    (try simp only [thenE, inBlk, Nat.reduceEqDiff, ↓reduceIte])
    (refine hK _ ?_; clear hK K; (try simp only [nA, Nat.reduceBEq, Nat.reduceEqDiff, ↓reduceIte, Nat.reduceAdd, Nat.reduceSub]))
    refine AW.region ?_
    refine awP (op_move rfl rfl) ?_
    (first | refine awP (op_addi rfl rfl rfl (by omega)) ?_ | refine awP (op_add rfl rfl rfl rfl) ?_)
    refine awP (op_assign rfl rfl) ?_
    skip
    refine AWL.nil ?_
    refine ⟨(f, i + 1, rawN l (rawN l k), a ++ [(gr0 (i : Nat) (gmod (rawV l (rawN l k)) 3))], _, _), ⟨by dsimp only; omega, by simp; omega, by rw [← hR, if_pos (by simpa using hc2)]⟩, by dsimp only; omega, ⟨rfl, rfl, rfl, rfl, trivial⟩, (by first | rfl | trivial), (by first | rfl | trivial)⟩
   ·
    (try simp only [hcS] at hc); have hc2 := hc; skip
    refine AW.skip ?_
    (try simp only [thenE, inBlk, Nat.reduceEqDiff, ↓reduceIte])
    (refine hK _ ?_; clear hK K; (try simp only [nA, Nat.reduceBEq, Nat.reduceEqDiff, ↓reduceIte, Nat.reduceAdd, Nat.reduceSub]))
    refine AW.region ?_
    refine awP (op_move rfl rfl) ?_
    (first | refine awP (op_addi rfl rfl rfl (by omega)) ?_ | refine awP (op_add rfl rfl rfl rfl) ?_)
    refine awP (op_assign rfl rfl) ?_
    skip
    refine AWL.nil ?_
    refine ⟨(f, i + 1, rawN l k, a, _, _), ⟨by dsimp only; omega, by dsimp only; omega, by rw [← hR, if_neg (by simpa using hc2)]⟩, by dsimp only; omega, ⟨rfl, rfl, rfl, rfl, trivial⟩, (by first | rfl | trivial), (by first | rfl | trivial)⟩
  ·
   (try simp only [hcS] at hc); have hc1 := hc; obtain rfl : f = 0 := (by have h : ¬ ((i : Int) < n) := (by simpa using hc1); omega); have hE : grS l n 0 k0 [] = (k, a) := hI.2.2.symm
   refine AW.exit ?_; (try simp only [thenE, inBlk, Nat.reduceEqDiff, ↓reduceIte])
   clear hK K
   (refine hK _ ?_; clear hK K; (try simp only [nA, Nat.reduceBEq, Nat.reduceEqDiff, ↓reduceIte, Nat.reduceAdd, Nat.reduceSub]))
   (refine AW.seq_k ?_; intro K hK)
   refine AW.region ?_
   refine awP (op_move rfl rfl) ?_
   refine awP (op_assign rfl rfl) ?_
   refine AWL.nil ?_
   (refine hK _ ?_; clear hK K; (try simp only [nA, Nat.reduceBEq, Nat.reduceEqDiff, ↓reduceIte, Nat.reduceAdd, Nat.reduceSub]))
   refine AW.gh (Gh.freeze 4 (Nat.le_of_ble_eq_true rfl) rfl rfl (gav_flat a) (es' := a.map Grant.av) (List.take_of_length_le (by simp))) ?_; (try simp only [nA, Nat.reduceBEq, Nat.reduceEqDiff, ↓reduceIte, Nat.reduceAdd, Nat.reduceSub])
   refine AW.ret ?_; (try simp only [thenE, inBlk, Nat.reduceEqDiff, ↓reduceIte]); rw [hE]; exact RQ.of (.inl rfl) rfl (.tmp (Nat.le_of_ble_eq_true rfl) rfl rfl .nil) (by simp) rfl (one_out rfl)
abbrev em0 (m j : Int) : Container := ⟨m, flightN j, 31, 500, 20, m, 0, []⟩
def emS (l : List Int) : Nat → Nat → List Container → Nat × List Container
  | 0, k, a => (k, a)
  | f + 1, k, a => emS l f (rawN l k) (a ++ [em0 ((a.length : Int) + 1) (gmod (rawV l k) 3)])
def emptiesV (l : List Int) (k n : Nat) : Nat × List Container := emS l (idxV l k (n + 1)) (rawN l k) []
end Go.Proofs.Ytdnofpggdddimaa
namespace Go.Proofs.Ytdnofpggdddimaa
open Go.RowKit
set_option linter.unusedSimpArgs false
set_option linter.unusedVariables false
set_option maxRecDepth 100000
structure GoodC (ys : List Container) : Prop where
  val : ∀ c ∈ ys, valC c = 0
  asc : ys.Pairwise fun c d => c.number < d.number
  pos : ∀ (i : Nat) (h : i < ys.length), ys[i].position = 0 ∨ ys[i].position = i + 1
  disj : ys.Pairwise fun c d => ∀ x ∈ c.pieces, ∀ y ∈ d.pieces, x.plate ≠ y.plate
theorem InvB.good {i : Nat} {cs : List Container} (h : InvB i cs) : GoodC cs := ⟨fun c hc => h.val hc, h.asc, h.pos, h.disj⟩
theorem chkP_some : ∀ (l : List Piece) (pl : List Plate), AscP l → (∀ x ∈ l, x.plate ∉ pl) → ∃ pl', chkP l pl = some pl' ∧ ∀ q, q ∈ pl' → q ∈ pl ∨ ∃ x ∈ l, x.plate = q
  | [], pl, _, _ => ⟨pl, rfl, fun q h => .inl h⟩
  | p :: l, pl, ha, hn => by
    have h1 := List.pairwise_cons.1 ha
    rw [chkP_cons, if_neg (hn p (by simp))]
    obtain ⟨pl', h2, h3⟩ := chkP_some l (p.plate :: pl) h1.2 (fun x hx hm => by
      rcases List.mem_cons.1 hm with e | hm
      · have := h1.1 x hx; rw [e] at this; exact PLt.irrefl _ this
      · exact hn x (by simp [hx]) hm)
    refine ⟨pl', h2, fun q hq => ?_⟩
    rcases h3 q hq with h | ⟨x, hx, e⟩
    · rcases List.mem_cons.1 h with rfl | h
      · exact .inr ⟨p, by simp, rfl⟩
      · exact .inl h
    · exact .inr ⟨x, by simp [hx], e⟩
theorem chk_zero : ∀ (cs : List Container) (o : Option Int) (sp : List Container) (pl : List Plate), (∀ c ∈ cs, valC c = 0) → (cs.Pairwise fun c d => c.number < d.number) → (∀ m, o = some m → ∀ c ∈ cs, m < c.number) →
    (cs.Pairwise fun c d => c.position ≠ 0 → c.position ≠ d.position) → (∀ s ∈ sp, ∀ c ∈ cs, s.position ≠ c.position) → (∀ c ∈ cs, ∀ x ∈ c.pieces, x.plate ∉ pl) → (cs.Pairwise fun c d => ∀ x ∈ c.pieces, ∀ y ∈ d.pieces, x.plate ≠ y.plate) → chk o cs sp pl = 0
  | [], _, _, _, _, _, _, _, _, _, _ => rfl
  | c :: cs, o, sp, pl, hv, ha, ho, hp, hs, hpl, hd => by
    have ha1 := List.pairwise_cons.1 ha
    have hp1 := List.pairwise_cons.1 hp
    have hd1 := List.pairwise_cons.1 hd
    obtain ⟨pl', h2, h3⟩ := chkP_some c.pieces pl (val_asc (hv c (by simp))) (hpl c (by simp))
    unfold chk
    rw [if_neg (by simp [hv c (by simp)]), if_neg (by
      cases o with
      | none => simp [prevBad]
      | some m => have := ho m rfl c (by simp); unfold prevBad; simp; omega), if_neg (by
      rintro ⟨_, hm⟩
      obtain ⟨s, h4, h5⟩ := List.mem_map.1 hm
      exact hs s h4 c (by simp) (congrArg Spot.position h5)), h2]
    simp only
    refine chk_zero cs _ _ pl' (fun d hd => hv d (by simp [hd])) ha1.2 (fun m hm d hd => by injection hm with hm; rw [← hm]; exact ha1.1 d hd) hp1.2 (fun s h4 d hdm => ?_) (fun d hdm x hx hm => ?_) hd1.2
    · by_cases h0 : c.position ≠ 0
      · rw [if_pos h0] at h4
        rcases List.mem_cons.1 h4 with e | h4
        · rw [e]; exact hp1.1 d hdm h0
        · exact hs s h4 d (List.mem_cons_of_mem _ hdm)
      · rw [if_neg h0] at h4
        exact hs s h4 d (List.mem_cons_of_mem _ hdm)
    · rcases h3 _ hm with h | ⟨y, hy, e⟩
      · exact hpl d (List.mem_cons_of_mem _ hdm) x hx h
      · exact hd1.1 d hdm y hy x hx e
theorem GoodC.chk {ys : List Container} (h : GoodC ys) (hl : ys.length ≤ 24) : chkL ys = 0 := by
  unfold chkL
  rw [if_neg (by omega)]
  refine chk_zero ys none [] [] h.val h.asc (by simp) (List.pairwise_iff_getElem.2 fun i j hi hj hij h0 => ?_) (by simp) (by simp) h.disj
  rcases h.pos i hi with h1 | h1 <;> rcases h.pos j hj with h2 | h2 <;> omega
theorem co_bare (c : Container) : coB (bareC c) = coB c := rfl
theorem val_bare {c : Container} (h : valC c = 0) : valC (bareC c) = 0 :=
  val_intro (by rw [co_bare]; exact (val_inv h).1) (by simp [bareC]) (by simp [bareC]) (show Asc [] from ascP_iff.1 List.Pairwise.nil)
theorem chk_bare0 : ∀ (cs : List Container) (o : Option Int) (sp : List Container) (pl pl2 : List Plate), chk o cs sp pl = 0 → chk o (cs.map bareC) (sp.map bareC) pl2 = 0
  | [], _, _, _, _, _ => rfl
  | c :: cs, o, sp, pl, pl2, h => by
    unfold chk at h
    by_cases h1 : valC c ≠ 0
    · rw [if_pos h1] at h; exact absurd h h1
    rw [if_neg h1] at h
    by_cases h2 : prevBad o c.number = true
    · rw [if_pos h2] at h; cases h
    rw [if_neg h2] at h
    by_cases h3 : c.position ≠ 0 ∧ spotOf c ∈ sp.map spotOf
    · rw [if_pos h3] at h; cases h
    rw [if_neg h3] at h
    have e : (sp.map bareC).map spotOf = sp.map spotOf := by rw [List.map_map]; rfl
    rw [List.map_cons]
    unfold chk
    rw [if_neg (by simp [val_bare (by simpa using h1)]), if_neg (show ¬ prevBad o (bareC c).number = true from h2), if_neg (show ¬ ((bareC c).position ≠ 0 ∧ spotOf (bareC c) ∈ (sp.map bareC).map spotOf) by rw [e]; exact h3), show chkP (bareC c).pieces pl2 = some pl2 from rfl]
    simp only
    cases hp : chkP c.pieces pl with
    | none => rw [hp] at h; cases h
    | some pl' =>
      rw [hp] at h
      simp only at h
      have := chk_bare0 cs (some c.number) _ pl' pl2 h
      by_cases h0 : c.position ≠ 0
      · rw [if_pos h0] at this
        rw [if_pos (show (bareC c).position ≠ 0 from h0)]
        exact this
      · rw [if_neg h0] at this
        rw [if_neg (show ¬ (bareC c).position ≠ 0 from h0)]
        exact this
theorem chk_bare {cs : List Container} (h : chkL cs = 0) : chkL (cs.map bareC) = 0 := by
  unfold chkL at h ⊢
  rw [List.length_map]
  by_cases hl : (cs.length : Int) > 24
  · rw [if_pos hl] at h; cases h
  · rw [if_neg hl] at h ⊢
    exact chk_bare0 cs none [] [] [] h
theorem emp_bare {cs : List Container} (h : chkL cs = 0) : empB (cs.map bareC) = true := by
  unfold empB
  rw [chk_bare h, List.all_eq_true.2 fun c hc => by obtain ⟨d, _, rfl⟩ := List.mem_map.1 hc; rfl]
  rfl
theorem grsE_all {g : List Grant} (h : grsE g = 0) : ∀ k, k < g.length → grErr g k = 0 := by
  intro k hk
  refine Classical.byContradiction fun hne => ?_
  have : ∃ i, i < g.length ∧ grErr g i ≠ 0 ∧ ∀ j, j < i → grErr g j = 0 := by
    revert hk hne
    induction k using Nat.strongRecOn with
    | _ k ih =>
      intro hk hne
      by_cases hall : ∀ j, j < k → grErr g j = 0
      · exact ⟨k, hk, hne, hall⟩
      · obtain ⟨j, hj⟩ := Classical.not_forall.1 hall
        obtain ⟨hjk, hj0⟩ := Classical.not_imp.1 hj
        exact ih j hjk (by omega) hj0
  obtain ⟨i, hi, hne, hz⟩ := this
  rw [grsE_at hi hz rfl hne] at h
  exact hne h
theorem grBad_of {g : List Grant} {k : Nat} (h : grErr g k = 0) : grBad g k = false := by
  unfold grErr at h
  unfold grBad
  by_cases h1 : grB (g.getD k default) = false
  · rw [if_pos h1] at h; cases h
  rw [if_neg h1] at h
  by_cases h2 : (decide ((k : Int) > 0) && decide (cmpP (g.getD (k - 1) default).piece.plate (g.getD k default).piece.plate ≥ 0)) = true
  · rw [if_pos h2] at h; cases h
  · rw [show (decide ((k : Int) > 0) && decide (cmpP (g.getD (k - 1) default).piece.plate (g.getD k default).piece.plate ≥ 0)) = false by simpa using h2, show grB (g.getD k default) = true by simpa using h1]
    rfl
theorem grs_of {g : List Grant} (h : grsE g = 0) (hl : ¬ (g.length : Int) > 60) : grsB g = true := by
  rw [grs_yes (i := g.length) (by omega) fun k hk => grBad_of (grsE_all h k hk), decide_eq_true (by omega)]
theorem off_parts {h : Hand} {g : List Grant} {c : List Container} (he : offE h g c = 0) : valH h = 0 ∧ h.offline = false ∧ ¬ (g.length : Int) > 60 ∧ grsE g = 0 ∧ chkL c = 0 := by
  unfold offE at he
  by_cases h1 : valH h ≠ 0
  · rw [if_pos h1] at he; exact absurd he h1
  rw [if_neg h1] at he
  by_cases h2 : h.offline = true
  · rw [if_pos h2] at he; cases he
  rw [if_neg h2] at he
  by_cases h3 : (g.length : Int) > 60
  · rw [if_pos h3] at he; cases he
  rw [if_neg h3] at he
  by_cases h4 : grsE g ≠ 0
  · rw [if_pos h4] at he; exact absurd he h4
  rw [if_neg h4] at he
  exact ⟨by simpa using h1, by simpa using h2, h3, by simpa using h4, he⟩
theorem off_valid {h : Hand} {g : List Grant} {c : List Container} (he : offE h g c = 0) (hl : h.log = []) : valH (offH h g c) = 0 := by
  obtain ⟨h1, h2, h3, h4, h5⟩ := off_parts he
  have hv := val_parts h1
  refine val_0 hv.1 rfl (grs_of h4 h3) (emp_bare h5) ?_
  unfold logB lgLast offH
  rw [hl]
  rfl
theorem in_spec {n lo hi : Int} : inB n lo hi = true ↔ lo ≤ n ∧ n ≤ hi := by
  unfold inB
  simp only [Bool.and_eq_true, decide_eq_true_eq]
theorem off_sm {h : Hand} {g : List Grant} {c : List Container} (hs : h.Sm) (hg : g.length ≤ 1000) (hc : c.length ≤ 1000) : (offH h g c).Sm :=
  ⟨hg, by simpa [offH] using hc, hs.l, fun x hx => by obtain ⟨d, _, rfl⟩ := List.mem_map.1 (show x ∈ c.map bareC from hx); simp [bareC]⟩
end Go.Proofs.Ytdnofpggdddimaa
namespace Go.Proofs.Ytdnofpggdddimaa
open Go.RowKit
set_option linter.unusedSimpArgs false
set_option linter.unusedVariables false
set_option maxRecDepth 100000
structure GoodG (n : Nat) (a : List Grant) : Prop where
  len : a.length ≤ n
  of : ∀ x ∈ a, ∃ m : Nat, ∃ j : Int, m < n ∧ 0 ≤ j ∧ j < 3 ∧ x = gr0 m j
  asc : a.Pairwise fun x y => x.piece.plate.serial < y.piece.plate.serial
theorem gr0_plate {m : Nat} {j : Int} (h : m < 100) : (gr0 (m : Int) j).piece.plate = ⟨0, 117, 1000 + m⟩ := plates_lt h
theorem goodG_S (l : List Int) : ∀ (f i k : Nat) (a : List Grant), f + i ≤ 100 → GoodG i a → GoodG (f + i) (grS l f i k a).2
  | 0, i, k, a, _, h => by rw [Nat.zero_add]; exact h
  | f + 1, i, k, a, hf, h => by
    rw [grS_succ]
    have hg3 := gmod_bd (x := rawV l (rawN l k)) (n := 3) (by decide)
    have up : GoodG (i + 1) a := ⟨by have := h.len; omega, fun x hx => by obtain ⟨m, j, h1, h2⟩ := h.of x hx; exact ⟨m, j, by omega, h2⟩, h.asc⟩
    split
    · rw [show f + 1 + i = f + (i + 1) by omega]
      refine goodG_S l f (i + 1) _ _ (by omega) ⟨by have := h.len; simp; omega, fun x hx => ?_, List.pairwise_append.2 ⟨h.asc, List.pairwise_singleton _ _, fun x hx y hy => ?_⟩⟩
      · rcases List.mem_append.1 hx with hx | hx
        · exact up.of x hx
        · exact ⟨i, _, by omega, hg3.1, hg3.2, List.mem_singleton.1 hx⟩
      · obtain ⟨m, j, h1, h2, h3, rfl⟩ := h.of x hx
        rw [List.mem_singleton.1 hy, gr0_plate (by omega), gr0_plate (by omega)]
        show (1000 : Int) + m < 1000 + i
        omega
    · rw [show f + 1 + i = f + (i + 1) by omega]
      exact goodG_S l f (i + 1) _ _ (by omega) up
theorem goodG (l : List Int) (n k : Nat) (hn : n ≤ 100) : GoodG n (grS l n 0 k []).2 := by
  have := goodG_S l n 0 k [] (by omega) ⟨by simp, by simp, List.Pairwise.nil⟩
  rwa [Nat.add_zero] at this
theorem gr0_ok {m : Nat} {j : Int} (h : m < 100) (h1 : 0 ≤ j) (h2 : j < 3) : grB (gr0 (m : Int) j) = true := by
  unfold grB piB
  rw [show plB (gr0 (m : Int) j).piece.plate = true from plates_ok _, flB_N ⟨h1, h2⟩, show inB (gr0 (m : Int) j).piece.weight 1 999 = true from in_spec.2 (by show 1 ≤ 10 + (m : Int) ∧ 10 + (m : Int) ≤ 999; omega)]
  rfl
theorem cmp_serial {a b : Int} (h : a < b) : cmpP ⟨0, 117, a⟩ ⟨0, 117, b⟩ = -1 := by
  rw [cmpP_3 (by simp [cmpI]) (by simp [cmpI])]
  show cmpI a b = -1
  unfold cmpI
  rw [if_pos h]
theorem GoodG.err {n : Nat} {a : List Grant} (h : GoodG n a) (hn : n ≤ 100) : grsE a = 0 := by
  refine grsE_ok (i := a.length) (by omega) fun k hk => ?_
  unfold grErr
  have hm : a.getD k default ∈ a := by rw [getD_of hk]; exact List.getElem_mem hk
  obtain ⟨m, j, h1, h2, h3, e⟩ := h.of _ hm
  rw [if_neg (by rw [e, gr0_ok (by omega) h2 h3]; decide), if_neg]
  intro hc
  simp only [Bool.and_eq_true, decide_eq_true_eq] at hc
  have hk1 : k - 1 < a.length := by omega
  have hm2 : a.getD (k - 1) default ∈ a := by rw [getD_of hk1]; exact List.getElem_mem hk1
  obtain ⟨m2, j2, q1, q2, q3, e2⟩ := h.of _ hm2
  have hlt := (List.pairwise_iff_getElem.1 h.asc) (k - 1) k hk1 hk (by omega)
  rw [← getD_of hk1, ← getD_of hk, e, e2, gr0_plate (by omega), gr0_plate (by omega)] at hlt
  rw [e, e2, gr0_plate (by omega), gr0_plate (by omega), cmp_serial hlt] at hc
  omega
structure GoodM (a : List Container) : Prop where
  of : ∀ (i : Nat) (h : i < a.length), ∃ j : Int, 0 ≤ j ∧ j < 3 ∧ a[i] = em0 ((i : Int) + 1) j
theorem GoodM.good {a : List Container} (h : GoodM a) (hl : a.length ≤ 24) : GoodC a := by
  have get : ∀ c ∈ a, ∃ i : Nat, ∃ j : Int, i < a.length ∧ 0 ≤ j ∧ j < 3 ∧ c = em0 ((i : Int) + 1) j := fun c hc => by
    obtain ⟨i, hi, rfl⟩ := List.getElem_of_mem hc
    obtain ⟨j, h1, h2, h3⟩ := h.of i hi
    exact ⟨i, j, hi, h1, h2, h3⟩
  refine ⟨fun c hc => ?_, List.pairwise_iff_getElem.2 fun i j hi hj hij => ?_, fun i hi => ?_, List.pairwise_iff_getElem.2 fun i j hi hj hij x hx => ?_⟩
  · obtain ⟨i, j, h0, h1, h2, rfl⟩ := get c hc
    refine val_intro ?_ (by simp) (by simp) (show Asc [] from ascP_iff.1 List.Pairwise.nil)
    unfold coB
    simp only [Bool.and_eq_true]
    exact ⟨⟨⟨⟨⟨⟨in_spec.2 (by show 1 ≤ (i : Int) + 1 ∧ (i : Int) + 1 ≤ 999; omega), flB_N ⟨h1, h2⟩⟩, in_spec.2 (by decide)⟩, in_spec.2 (by decide)⟩, in_spec.2 (by decide)⟩, in_spec.2 (by show 0 ≤ (i : Int) + 1 ∧ (i : Int) + 1 ≤ 24; omega)⟩, in_spec.2 (by decide)⟩
  · obtain ⟨_, _, _, e1⟩ := h.of i hi
    obtain ⟨_, _, _, e2⟩ := h.of j hj
    rw [e1, e2]
    show (i : Int) + 1 < j + 1
    omega
  · obtain ⟨_, _, _, e1⟩ := h.of i hi
    rw [e1]; exact .inr rfl
  · obtain ⟨_, _, _, e1⟩ := h.of i hi
    rw [e1] at hx; cases hx
theorem valOn {nb nx ls : Int} (h1 : 1 ≤ nb ∧ nb ≤ 6) (h2 : 1 ≤ nx ∧ nx ≤ 1048576) (h3 : 0 ≤ ls ∧ ls ≤ 1048576) : valH (onH nb nx ls) = 0 :=
  val_0 (by unfold numB; simp only [Bool.and_eq_true]; exact ⟨⟨in_spec.2 h1, in_spec.2 h2⟩, in_spec.2 h3⟩) rfl rfl rfl rfl
theorem off_intro {h : Hand} {g : List Grant} {c : List Container} (hv : valH h = 0) (ho : h.offline = false) (hg : g.length ≤ 60) (he : grsE g = 0) (hc : chkL c = 0) : offE h g c = 0 := by
  unfold offE
  rw [if_neg (by rw [hv]; decide), if_neg (by rw [ho]; decide), if_neg (by omega), if_neg (by rw [he]; decide), hc]
end Go.Proofs.Ytdnofpggdddimaa
namespace Go.Proofs.Ytdnofpggdddimaa
open Go.RowKit
set_option linter.unusedSimpArgs false
set_option linter.unusedVariables false
set_option maxRecDepth 100000
theorem Fn.nil_agg2 {P : Program} {f : FuncId} {y : AV} {cs cs' xs ys : List AV} (hle : RL (Le2 P) cs' cs) (h : Fn P f [] (y :: .agg cs :: xs) ys []) : Fn P f [] (y :: .agg cs' :: xs) ys [] := fun w S vals bss vs came => by
  have hargs : RL (AggOK P S w (insT []) vals) vs (y :: .agg cs :: xs) := by
    obtain ⟨u0, us0, rfl, hu0, hus0⟩ := came.args.cons_inv
    obtain ⟨u, us, rfl, ⟨cu, rfl, hr⟩, hus⟩ := hus0.cons_inv
    refine RL.cons hu0 (RL.cons ⟨cu, rfl, hr.1.trans hle.1, fun i u x hu hx => ?_⟩ hus)
    have hi : i < cs'.length := by rw [← hr.1]; exact (List.getElem?_eq_some_iff.1 hu).1
    have hx' := List.getElem?_eq_getElem hi
    have h1 := hr.2 i u _ hu hx'
    have h2 := hle.2 i _ x hx' hx
    revert h1 h2
    generalize cs'[i] = y
    intro h1 h2
    cases h2 with
    | same => exact h1
    | nil => exact Le2.rep (P := P) .nil (show Rep P S w [] u (.v (.slice none 0 0)) from h1)
    | nilo h => exact Le2.rep (P := P) (.nilo h) (show Rep P S w [] u (.v (.slice none 0 0)) from h1)
  exact h w S vals bss vs { came with args := hargs }
theorem grEq_self (g : Grant) : grEq g g = true := by
  unfold grEq
  rw [piEq_self, flEq_iff.2 rfl]; rfl
theorem opEq_self (o : Op) : opEq o o = true := by
  unfold opEq
  rw [piEq_self]; simp
theorem listEq_self {α : Type} [Inhabited α] {eq : α → α → Bool} (h : ∀ x, eq x x = true) (l : List α) : listEq eq l l = true := by
  unfold listEq
  simp [h]
theorem sameH_self (h : Hand) : sameH h h = true := by
  unfold sameH headNeH
  rw [listEq_self sameC_self, listEq_self opEq_self]
  simp [grEq_self]
theorem bare_get {cs : List Container} {i : Nat} (h : i < cs.length) : ((cs.map bareC).map Container.av)[i]? = some (bareC (cs.getD i default)).av := by
  rw [List.getElem?_map, List.getElem?_map, List.getElem?_eq_getElem h, getD_of h]; rfl
theorem hl20 (l : List Int) : (l.take 2000).length ≤ 2000 := by simp; omega
theorem C9 {l : List Int} : Fn Try.prog 9 [] [.ro (l.map iv)] [.v (.bool true)] [] := by
  obtain ⟨k1, cs, hC29, hInv, hcl⟩ := conts21 (l.take 2000) 0 6 12 (hl20 l) (by decide) (by decide)
  have hG := goodG (l.take 2000) 10 k1 (by decide)
  have hgl := hG.len
  have hchk : chkL cs = 0 := hInv.good.chk (by omega)
  have hE : offE (onH 2 5 7) (grS (l.take 2000) 10 0 k1 []).2 cs = 0 := off_intro (valOn (by decide) (by decide) (by decide)) rfl (by have := hG.len; omega) (hG.err (by decide)) hchk
  have hOff : Fn Try.prog 32 [] [.agg (onV 2 5 7), .ro ((grS (l.take 2000) 10 0 k1 []).2.map Grant.av), .ro (cs.map Container.av)] [.agg (⟨2, 5, 7, true, (grS (l.take 2000) 10 0 k1 []).2, cs.map bareC, []⟩ : Hand).av, .v (.int .i64 0)] [] := by
    have := Fn.nil_agg (on_le 2 5 7) (C32 (h := onH 2 5 7) (g := (grS (l.take 2000) 10 0 k1 []).2) (c := cs) (on_sm 2 5 7) (by have := hG.len; omega) (by omega))
    rw [off_ok hE] at this
    exact this
  have hC40 : ∀ i, Fn Try.prog 40 [] [.agg (bareC (cs.getD i default)).av, .agg (bareC (cs.getD i default)).av] [.v (.bool true)] [] := fun i => by
    have := C40 (c := bareC (cs.getD i default)) (d := bareC (cs.getD i default)) (by simp [bareC])
    rwa [sameC_self] at this
  have hOnl : Fn Try.prog 34 [] [.agg (⟨2, 5, 7, true, (grS (l.take 2000) 10 0 k1 []).2, cs.map bareC, []⟩ : Hand).av] [.agg (onH 2 5 7).av, .ro (([] : List Op).map Op.av), .v (.int .i64 0)] [] := by
    have hs : (⟨2, 5, 7, true, (grS (l.take 2000) 10 0 k1 []).2, cs.map bareC, []⟩ : Hand).Sm := off_sm (h := onH 2 5 7) (on_sm 2 5 7) (by have := hG.len; omega) (by omega)
    have := C34 hs
    rw [onl_3 (by rw [show valH (⟨2, 5, 7, true, (grS (l.take 2000) 10 0 k1 []).2, cs.map bareC, []⟩ : Hand) = 0 from off_valid (h := onH 2 5 7) hE rfl]; decide) rfl] at this
    exact this
  have hSame : Fn Try.prog 15 [] [.agg (onH 2 5 7).av, .agg (onV 2 5 7)] [.v (.bool true)] [] := by
    have := Fn.nil_agg2 (on_le 2 5 7) (C15 (a := onH 2 5 7) (b := onH 2 5 7) (on_sm 2 5 7))
    rwa [sameH_self] at this
  refine Spec.body Try.func9 rfl Try.ntmps9 (by simp) rfl ?_; intro S0 own0 v0 w0
  (refine AW.seq_k ?_; intro K hK)
  refine AW.region ?_
  refine awP (op_assign rfl rfl) ?_
  refine AWL.nil ?_
  (refine hK _ ?_; clear hK K; (try simp only [nA, Nat.reduceBEq, Nat.reduceEqDiff, ↓reduceIte, Nat.reduceAdd, Nat.reduceSub]))
  (refine AW.seq_k ?_; intro K hK)
  refine AW.region ?_
  refine awP (op_move rfl rfl) ?_
  refine awJ (op_callB rfl en11 (C11) (RL.cons (by first | exact View.same rfl | exact View.nil | exact View.rof | exact View.src .ro | exact View.src .rof | exact View.src (.sl rfl rfl) | exact View.ptr rfl rfl rfl) (RL.nil))) ?_; (try simp only [nA, Nat.reduceBEq, Nat.reduceEqDiff, ↓reduceIte, Nat.reduceAdd, Nat.reduceSub])
  refine awP (op_assign rfl rfl) ?_
  refine AWL.nil ?_
  (refine hK _ ?_; clear hK K; (try simp only [nA, Nat.reduceBEq, Nat.reduceEqDiff, ↓reduceIte, Nat.reduceAdd, Nat.reduceSub]))
  (refine AW.seq_k ?_; intro K hK)
  refine AW.region ?_
  refine awP (op_move rfl rfl) ?_
  refine awJ (op_call1 rfl en29 (hC29) (by exact rfl) (RL.cons .ptr (RL.cons (.base (by first | exact View.same rfl | exact View.nil | exact View.rof | exact View.src .ro | exact View.src .rof | exact View.src (.sl rfl rfl) | exact View.ptr rfl rfl rfl)) (RL.cons (.base (by first | exact View.same rfl | exact View.nil | exact View.rof | exact View.src .ro | exact View.src .rof | exact View.src (.sl rfl rfl) | exact View.ptr rfl rfl rfl)) (RL.nil)))) (by exact ⟨_, _, _, rfl, rfl, rfl⟩) (by exact rfl) (by exact rfl) (by exact rfl)) ?_; (try simp only [nA, Nat.reduceBEq, Nat.reduceEqDiff, ↓reduceIte, Nat.reduceAdd, Nat.reduceSub])
  refine awP (op_assign rfl rfl) ?_
  refine AWL.nil ?_
  (refine hK _ ?_; clear hK K; (try simp only [nA, Nat.reduceBEq, Nat.reduceEqDiff, ↓reduceIte, Nat.reduceAdd, Nat.reduceSub]))
  (refine AW.seq_k ?_; intro K hK)
  refine AW.region ?_
  refine awP (op_move rfl rfl) ?_
  refine AWL.gh (Gh.freezeN 4 (Nat.le_of_ble_eq_true rfl) rfl rfl (by simpa using flat2_cons cs []) (es' := cs.map Container.av) (by rw [List.take_of_length_le (by simp)]; simpa using fz_cons cs [])) ?_; (try simp only [nA, Nat.reduceBEq, Nat.reduceEqDiff, ↓reduceIte, Nat.reduceAdd, Nat.reduceSub]); refine awJ (op_call1 rfl en30 (C30 (l := (l.take 2000)) (k0 := k1) (n := 10) (hl20 l) (by decide)) (by exact rfl) (RL.cons .ptr (RL.cons (.base (by first | exact View.same rfl | exact View.nil | exact View.rof | exact View.src .ro | exact View.src .rof | exact View.src (.sl rfl rfl) | exact View.ptr rfl rfl rfl)) (RL.nil))) (by exact ⟨_, _, _, rfl, rfl, rfl⟩) (by exact rfl) (by exact rfl) (by exact rfl)) ?_; (try simp only [nA, Nat.reduceBEq, Nat.reduceEqDiff, ↓reduceIte, Nat.reduceAdd, Nat.reduceSub])
  refine awP (op_assign rfl rfl) ?_
  refine AWL.nil ?_
  (refine hK _ ?_; clear hK K; (try simp only [nA, Nat.reduceBEq, Nat.reduceEqDiff, ↓reduceIte, Nat.reduceAdd, Nat.reduceSub]))
  (refine AW.seq_k ?_; intro K hK)
  refine AW.region ?_
  refine awP (op_build2 (xs := [_, _, _, .v (.bool false), .v (.slice none 0 0), .v (.slice none 0 0), .v (.slice none 0 0)]) rfl pl26 ze26 [(0, [_]), (1, [_]), (2, [_])] rfl rfl rfl) ?_
  refine awP (op_move rfl rfl) ?_
  refine awP (op_move rfl rfl) ?_
  refine awJ (op_call (b := false) rfl en32 (hOff) (RL.cons (by first | exact View.same rfl | exact View.nil | exact View.rof | exact View.src .ro | exact View.src .rof | exact View.src (.sl rfl rfl) | exact View.ptr rfl rfl rfl) (RL.cons (by first | exact View.same rfl | exact View.nil | exact View.rof | exact View.src .ro | exact View.src .rof | exact View.src (.sl rfl rfl) | exact View.ptr rfl rfl rfl) (RL.cons (by first | exact View.same rfl | exact View.nil | exact View.rof | exact View.src .ro | exact View.src .rof | exact View.src (.sl rfl rfl) | exact View.ptr rfl rfl rfl) (RL.nil)))) rfl (fun h => by cases h) rfl rfl) ?_; (try simp only [nA, Nat.reduceBEq, Nat.reduceEqDiff, ↓reduceIte, Nat.reduceAdd, Nat.reduceSub])
  refine awP (op_move rfl rfl) ?_
  refine awP (op_extract rfl rfl rfl) ?_
  refine awP (op_extract rfl rfl rfl) ?_
  refine awJ (op_alloc rfl ze26 rfl) ?_; (try simp only [nA, Nat.reduceBEq, Nat.reduceEqDiff, ↓reduceIte, Nat.reduceAdd, Nat.reduceSub])
  refine awJ (op_store rfl rfl rfl rfl rfl rfl sz26 rfl (Nat.le_of_ble_eq_true rfl) rfl) ?_; (try simp only [nA, Nat.reduceBEq, Nat.reduceEqDiff, ↓reduceIte, Nat.reduceAdd, Nat.reduceSub])
  refine awP (op_assign rfl rfl) ?_
  refine AWL.nil ?_
  (refine hK _ ?_; clear hK K; (try simp only [nA, Nat.reduceBEq, Nat.reduceEqDiff, ↓reduceIte, Nat.reduceAdd, Nat.reduceSub]))
  (refine AW.seq_k ?_; intro K hK)
  (refine AW.seq_k ?_; intro K hK)
  refine AW.region (AWL.quiet ?_)
  refine aqP (op_move rfl rfl) ?_
  (first | refine aqP (op_neq rfl rfl rfl) ?_ | refine aqP (op_sneq rfl rfl rfl) ?_)
  refine aqP (op_move rfl rfl) ?_
  refine' aqOr' [_, _, _, _, _, _] [30,31,32,33,34,35] rfl rfl rfl rfl rfl rfl rfl rfl rfl rfl rfl rfl (fun hb => ?_) ?_; rotate_left
  ·
   (try simp only [hcS] at hb)
   (first | refine aqP (op_fa_ptr rfl rfl rfl fl26_5 (by exact sz23) (by decide) rfl) ?_ | refine aqP (op_fa_rop rfl rfl fl26_5 (by exact sz23) (by decide) (Nat.le_of_ble_eq_true rfl) rfl) ?_)
   (first | refine aqR (op_load_ptr1 rfl rfl rfl rfl ag23 rfl rfl) ?_ | refine aqR (op_load_rop1 rfl rfl ag23) ?_)
   refine aqP (op_len_ro (n := cs.length) rfl rfl Try.underlying23 (.inr (.inl ⟨_, rfl, by simp⟩))) ?_
   refine aqP (op_move rfl rfl) ?_
   refine aqP (op_len_ro (n := cs.length) rfl rfl Try.underlying23 (.inr (.inl ⟨_, rfl, by simp⟩))) ?_
   (first | refine aqP (op_neq rfl rfl rfl) ?_ | refine aqP (op_sneq rfl rfl rfl) ?_)
   (refine aqSeg rfl rfl rfl ?_; repeat (first | exact fun _ _ => rfl | refine upd_out rfl ?_ | refine era_out rfl ?_))
  (try simp only [nA, Nat.reduceBEq, Nat.reduceEqDiff, ↓reduceIte, Nat.reduceAdd, Nat.reduceSub])
  refine aqP (op_move rfl rfl) ?_
  refine' aqOr' [_, _, _, _, _, _] [38,39,40,41,42,43] rfl rfl rfl rfl rfl rfl rfl rfl rfl rfl rfl rfl (fun hb => ?_) ?_; rotate_left
  ·
   (try simp only [hcS] at hb)
   (first | refine aqP (op_fa_ptr rfl rfl rfl fl26_4 (by exact sz22) (by decide) rfl) ?_ | refine aqP (op_fa_rop rfl rfl fl26_4 (by exact sz22) (by decide) (Nat.le_of_ble_eq_true rfl) rfl) ?_)
   (first | refine aqR (op_load_ptr1 rfl rfl rfl rfl ag22 rfl rfl) ?_ | refine aqR (op_load_rop1 rfl rfl ag22) ?_)
   refine aqP (op_len_ro (n := ((grS (l.take 2000) 10 0 k1 []).2).length) rfl rfl Try.underlying22 (.inr (.inl ⟨_, rfl, by simp⟩))) ?_
   refine aqP (op_move rfl rfl) ?_
   refine aqP (op_len_ro (n := ((grS (l.take 2000) 10 0 k1 []).2).length) rfl rfl Try.underlying22 (.inr (.inl ⟨_, rfl, by simp⟩))) ?_
   (first | refine aqP (op_neq rfl rfl rfl) ?_ | refine aqP (op_sneq rfl rfl rfl) ?_)
   (refine aqSeg rfl rfl rfl ?_; repeat (first | exact fun _ _ => rfl | refine upd_out rfl ?_ | refine era_out rfl ?_))
  (try simp only [nA, Nat.reduceBEq, Nat.reduceEqDiff, ↓reduceIte, Nat.reduceAdd, Nat.reduceSub])
  refine aqP (op_move rfl rfl) ?_
  refine' aqOr' [_, _, _] [46,47,48] rfl rfl rfl rfl rfl rfl rfl rfl rfl rfl rfl rfl (fun hb => ?_) ?_; rotate_left
  ·
   (try simp only [hcS] at hb)
   (first | refine aqP (op_fa_ptr rfl rfl rfl fl26_0 (by exact sz3) (by decide) rfl) ?_ | refine aqP (op_fa_rop rfl rfl fl26_0 (by exact sz3) (by decide) (Nat.le_of_ble_eq_true rfl) rfl) ?_)
   (first | refine aqR (op_load_ptr1 rfl rfl rfl rfl ag3 rfl rfl) ?_ | refine aqR (op_load_rop1 rfl rfl ag3) ?_)
   (first | refine aqP (op_neq rfl rfl rfl) ?_ | refine aqP (op_sneq rfl rfl rfl) ?_)
   (refine aqSeg rfl rfl rfl ?_; repeat (first | exact fun _ _ => rfl | refine upd_out rfl ?_ | refine era_out rfl ?_))
  (try simp only [nA, Nat.reduceBEq, Nat.reduceEqDiff, ↓reduceIte, Nat.reduceAdd, Nat.reduceSub])
  refine aqP (op_move rfl rfl) ?_
  refine' aqOr' [_, _, _] [51,52,53] rfl rfl rfl rfl rfl rfl rfl rfl rfl rfl rfl rfl (fun hb => ?_) ?_; rotate_left
  ·
   (try simp only [hcS] at hb)
   (first | refine aqP (op_fa_ptr rfl rfl rfl fl26_1 (by exact sz3) (by decide) rfl) ?_ | refine aqP (op_fa_rop rfl rfl fl26_1 (by exact sz3) (by decide) (Nat.le_of_ble_eq_true rfl) rfl) ?_)
   (first | refine aqR (op_load_ptr1 rfl rfl rfl rfl ag3 rfl rfl) ?_ | refine aqR (op_load_rop1 rfl rfl ag3) ?_)
   (first | refine aqP (op_neq rfl rfl rfl) ?_ | refine aqP (op_sneq rfl rfl rfl) ?_)
   (refine aqSeg rfl rfl rfl ?_; repeat (first | exact fun _ _ => rfl | refine upd_out rfl ?_ | refine era_out rfl ?_))
  (try simp only [nA, Nat.reduceBEq, Nat.reduceEqDiff, ↓reduceIte, Nat.reduceAdd, Nat.reduceSub])
  refine aqP (op_move rfl rfl) ?_
  refine' aqOr' [_, _, _] [56,57,58] rfl rfl rfl rfl rfl rfl rfl rfl rfl rfl rfl rfl (fun hb => ?_) ?_; rotate_left
  ·
   (try simp only [hcS] at hb)
   (first | refine aqP (op_fa_ptr rfl rfl rfl fl26_2 (by exact sz3) (by decide) rfl) ?_ | refine aqP (op_fa_rop rfl rfl fl26_2 (by exact sz3) (by decide) (Nat.le_of_ble_eq_true rfl) rfl) ?_)
   (first | refine aqR (op_load_ptr1 rfl rfl rfl rfl ag3 rfl rfl) ?_ | refine aqR (op_load_rop1 rfl rfl ag3) ?_)
   (first | refine aqP (op_neq rfl rfl rfl) ?_ | refine aqP (op_sneq rfl rfl rfl) ?_)
   (refine aqSeg rfl rfl rfl ?_; repeat (first | exact fun _ _ => rfl | refine upd_out rfl ?_ | refine era_out rfl ?_))
  (try simp only [nA, Nat.reduceBEq, Nat.reduceEqDiff, ↓reduceIte, Nat.reduceAdd, Nat.reduceSub])
  refine aqP (op_move rfl rfl) ?_
  refine' aqOr' [_, _, _] [61,62,63] rfl rfl rfl rfl rfl rfl rfl rfl rfl rfl rfl rfl (fun hb => ?_) ?_; rotate_left
  ·
   (try simp only [hcS] at hb)
   (first | refine aqP (op_fa_ptr rfl rfl rfl fl26_3 (by exact sz4) (by decide) rfl) ?_ | refine aqP (op_fa_rop rfl rfl fl26_3 (by exact sz4) (by decide) (Nat.le_of_ble_eq_true rfl) rfl) ?_)
   (first | refine aqR (op_load_ptr1 rfl rfl rfl rfl ag4 rfl rfl) ?_ | refine aqR (op_load_rop1 rfl rfl ag4) ?_)
   refine aqP (op_not rfl rfl rfl) ?_
   (refine aqSeg rfl rfl rfl ?_; repeat (first | exact fun _ _ => rfl | refine upd_out rfl ?_ | refine era_out rfl ?_))
  (try simp only [nA, Nat.reduceBEq, Nat.reduceEqDiff, ↓reduceIte, Nat.reduceAdd, Nat.reduceSub])
  refine AQ.nil ?_
  (refine hK _ ?_; clear hK K; (try simp only [nA, Nat.reduceBEq, Nat.reduceEqDiff, ↓reduceIte, Nat.reduceAdd, Nat.reduceSub]))
  refine AW.cond rfl rfl rfl (fun hc => ?_) (fun hc => ?_)
  · simp at hc
  ·
   (skip); have hc1 := hc; skip
   refine AW.skip ?_
   (refine hK _ ?_; clear hK K; (try simp only [nA, Nat.reduceBEq, Nat.reduceEqDiff, ↓reduceIte, Nat.reduceAdd, Nat.reduceSub]))
   (refine AW.seq_k ?_; intro K hK)
   (refine AW.seq_k ?_; intro K hK)
   refine AW.region ?_
   refine awP (op_move rfl rfl) ?_
   refine awP (op_len_ro (n := cs.length) rfl rfl Try.underlying23 (.inr (.inl ⟨_, rfl, by simp⟩))) ?_
   refine awP (op_move rfl rfl) ?_
   refine AWL.nil ?_
   (refine hK _ ?_; clear hK K; (try simp only [nA, Nat.reduceBEq, Nat.reduceEqDiff, ↓reduceIte, Nat.reduceAdd, Nat.reduceSub]))
   refine AW.block ?_
   refine AW.loopI (fun (i : Nat) => [(4, .ro (cs.map Container.av)), (5, .ro (((grS (l.take 2000) 10 0 k1 []).2).map Grant.av)), (6, .ptr 2 3 0 0), (66, .v (.int .i64 (cs.length : Nat))), (67, .v (.int .i64 (i : Nat)))]) (fun i => ⟨[(1, .own 81 [srcRow (l.take 2000) (grS (l.take 2000) 10 0 k1 []).1]), (2, .any), (3, .own 26 [((⟨2, 5, 7, true, (grS (l.take 2000) 10 0 k1 []).2, cs.map bareC, []⟩ : Hand)).av])], 4 + i⟩) (fun i => i ≤ cs.length) (fun i => cs.length - i) 0 (by simp) ⟨rfl, rfl, rfl, rfl, rfl, trivial⟩ rfl ?_; intro i ρ hi; simp only [updL]; (try simp only [nA, Nat.reduceBEq, Nat.reduceEqDiff, ↓reduceIte, Nat.reduceAdd, Nat.reduceSub])
   (refine AW.seq_k ?_; intro K hK)
   refine AW.region ?_
   refine awP (op_lss rfl rfl rfl) ?_
   refine AWL.nil ?_
   (refine hK _ ?_; clear hK K; (try simp only [nA, Nat.reduceBEq, Nat.reduceEqDiff, ↓reduceIte, Nat.reduceAdd, Nat.reduceSub]))
   (refine AW.seq_k ?_; intro K hK)
   refine AW.cond rfl rfl rfl (fun hc => ?_) (fun hc => ?_)
   ·
    (skip); have hc2 := hc; have hlt : i < cs.length := (by simpa using hc2)
    refine AW.skip ?_
    (refine hK _ ?_; clear hK K; (try simp only [nA, Nat.reduceBEq, Nat.reduceEqDiff, ↓reduceIte, Nat.reduceAdd, Nat.reduceSub]))
    (refine AW.seq_k ?_; intro K hK)
    refine AW.block ?_
    (refine AW.seq_k ?_; intro K hK)
    refine AW.region ?_
    refine awP (op_move rfl rfl) ?_
    refine awP (op_assign rfl rfl) ?_
    refine AWL.nil ?_
    (refine hK _ ?_; clear hK K; (try simp only [nA, Nat.reduceBEq, Nat.reduceEqDiff, ↓reduceIte, Nat.reduceAdd, Nat.reduceSub]))
    (refine AW.seq_k ?_; intro K hK)
    refine AW.region ?_
    refine awP (op_move rfl rfl) ?_
    refine awP (op_move rfl rfl) ?_
    refine awP (op_ia_ro i rfl (.inl rfl) rfl Try.underlying23 rfl (get_mapD (by omega)) (by exact sz77) (Nat.le_of_ble_eq_true rfl)) ?_
    (first | refine awR (op_load_ptr rfl rfl rfl rfl ag77 sz77 (Nat.le_of_ble_eq_true rfl) rfl) ?_ | refine awR (op_load_rop rfl rfl ag77 sz77 (Nat.le_of_ble_eq_true rfl) (by decide) rfl) ?_)
    refine awJ (op_alloc rfl ze77 rfl) ?_; (try simp only [nA, Nat.reduceBEq, Nat.reduceEqDiff, ↓reduceIte, Nat.reduceAdd, Nat.reduceSub])
    refine awJ (op_store rfl rfl rfl rfl rfl rfl sz77 rfl (Nat.le_of_ble_eq_true rfl) rfl) ?_; (try simp only [nA, Nat.reduceBEq, Nat.reduceEqDiff, ↓reduceIte, Nat.reduceAdd, Nat.reduceSub])
    refine AWL.nil ?_
    (refine hK _ ?_; clear hK K; (try simp only [nA, Nat.reduceBEq, Nat.reduceEqDiff, ↓reduceIte, Nat.reduceAdd, Nat.reduceSub]))
    (refine AW.seq_k ?_; intro K hK)
    refine AW.region ?_
    (first | refine awP (op_fa_ptr rfl rfl rfl fl77_7 (by exact sz53) (by decide) rfl) ?_ | refine awP (op_fa_rop rfl rfl fl77_7 (by exact sz53) (by decide) (Nat.le_of_ble_eq_true rfl) rfl) ?_)
    refine awJ (op_store rfl rfl rfl rfl rfl rfl sz53 rfl (Nat.le_of_ble_eq_true rfl) rfl) ?_; (try simp only [nA, Nat.reduceBEq, Nat.reduceEqDiff, ↓reduceIte, Nat.reduceAdd, Nat.reduceSub]); refine AWL.gh (Gh.cell0 (r := 3) (A := none) (c := 0) (row := nilC (cs.getD i default)) 0 10 rfl rfl rfl (by decide) rfl) ?_; (try simp only [nA, Nat.reduceBEq, Nat.reduceEqDiff, ↓reduceIte, Nat.reduceAdd, Nat.reduceSub])
    refine AWL.nil ?_
    (refine hK _ ?_; clear hK K; (try simp only [nA, Nat.reduceBEq, Nat.reduceEqDiff, ↓reduceIte, Nat.reduceAdd, Nat.reduceSub]))
    (refine AW.seq_k ?_; intro K hK)
    refine AW.quiet mix (by kernel_rfl) ?_
    (first | refine aqP (op_fa_ptr rfl rfl rfl fl26_5 (by exact sz23) (by decide) rfl) ?_ | refine aqP (op_fa_rop rfl rfl fl26_5 (by exact sz23) (by decide) (Nat.le_of_ble_eq_true rfl) rfl) ?_)
    (first | refine aqR (op_load_ptr1 rfl rfl rfl rfl ag23 rfl rfl) ?_ | refine aqR (op_load_rop1 rfl rfl ag23) ?_)
    refine aqP (op_move rfl rfl) ?_
    refine aqP (op_ia_ro i rfl (.inl rfl) rfl Try.underlying23 rfl (bare_get hlt) (by exact sz77) (Nat.le_of_ble_eq_true rfl)) ?_
    (first | refine aqR (op_load_ptr rfl rfl rfl rfl ag77 sz77 (Nat.le_of_ble_eq_true rfl) rfl) ?_ | refine aqR (op_load_rop rfl rfl ag77 sz77 (Nat.le_of_ble_eq_true rfl) (by decide) rfl) ?_)
    (first | refine aqR (op_load_ptr rfl rfl rfl rfl ag77 sz77 (Nat.le_of_ble_eq_true rfl) rfl) ?_ | refine aqR (op_load_rop rfl rfl ag77 sz77 (Nat.le_of_ble_eq_true rfl) (by decide) rfl) ?_)
    refine aqQ (op_callQ (b := true) rfl en40 (hC40 i) (RL.cons (by first | exact View.same rfl | exact View.nil | exact View.rof | exact View.src .ro | exact View.src .rof | exact View.src (.sl rfl rfl) | exact View.ptr rfl rfl rfl) (RL.cons (by first | exact View.same rfl | exact View.nil | exact View.rof | exact View.src .ro | exact View.src .rof | exact View.src (.sl rfl rfl) | exact View.ptr rfl rfl rfl) (RL.nil))) rfl) ?_; (try simp only [nA, Nat.reduceBEq, Nat.reduceEqDiff, ↓reduceIte, Nat.reduceAdd, Nat.reduceSub])
    refine aqP (op_not rfl rfl rfl) ?_
    refine AQ.nil ?_
    (refine hK _ ?_; clear hK K; (try simp only [nA, Nat.reduceBEq, Nat.reduceEqDiff, ↓reduceIte, Nat.reduceAdd, Nat.reduceSub]))
    refine AW.cond rfl rfl rfl (fun hc => ?_) (fun hc => ?_)
    · cases hc
    ·
     (skip); have hc3 := hc; skip
     refine AW.skip ?_
     (try simp only [thenE, inBlk, Nat.reduceEqDiff, ↓reduceIte])
     (refine hK _ ?_; clear hK K; (try simp only [nA, Nat.reduceBEq, Nat.reduceEqDiff, ↓reduceIte, Nat.reduceAdd, Nat.reduceSub]))
     refine AW.region ?_
     (first | refine awP (op_addi rfl rfl rfl (by omega)) ?_ | refine awP (op_add rfl rfl rfl rfl) ?_)
     refine awP (op_move rfl rfl) ?_
     refine AWL.gh (Gh.drop 3) ?_; (try simp only [nA, Nat.reduceBEq, Nat.reduceEqDiff, ↓reduceIte, Nat.reduceAdd, Nat.reduceSub])
     refine AWL.nil ?_
     refine ⟨i + 1, by omega, by omega, ⟨rfl, rfl, rfl, rfl, rfl, trivial⟩, (by first | rfl | trivial), (by first | rfl | trivial)⟩
   ·
    (skip); have hc2 := hc; have hnl : ¬ i < cs.length := (by simpa using hc2)
    refine AW.exit ?_; (try simp only [thenE, inBlk, Nat.reduceEqDiff, ↓reduceIte])
    clear hK K
    (refine hK _ ?_; clear hK K; (try simp only [nA, Nat.reduceBEq, Nat.reduceEqDiff, ↓reduceIte, Nat.reduceAdd, Nat.reduceSub]))
    (refine AW.seq_k ?_; intro K hK)
    (refine AW.seq_k ?_; intro K hK)
    refine AW.region ?_
    refine awP (op_move rfl rfl) ?_
    refine awP (op_len_ro (n := ((grS (l.take 2000) 10 0 k1 []).2).length) rfl rfl Try.underlying22 (.inr (.inl ⟨_, rfl, by simp⟩))) ?_
    refine awP (op_move rfl rfl) ?_
    refine AWL.nil ?_
    (refine hK _ ?_; clear hK K; (try simp only [nA, Nat.reduceBEq, Nat.reduceEqDiff, ↓reduceIte, Nat.reduceAdd, Nat.reduceSub]))
    refine AW.block ?_
    refine AW.loopI (fun (i : Nat) => [(5, .ro (((grS (l.take 2000) 10 0 k1 []).2).map Grant.av)), (6, .ptr 2 3 0 0), (85, .v (.int .i64 (((grS (l.take 2000) 10 0 k1 []).2).length : Nat))), (86, .v (.int .i64 (i : Nat)))]) (fun _ => ⟨[(1, .own 81 [srcRow (l.take 2000) (grS (l.take 2000) 10 0 k1 []).1]), (2, .any), (3, .own 26 [((⟨2, 5, 7, true, (grS (l.take 2000) 10 0 k1 []).2, cs.map bareC, []⟩ : Hand)).av])], _⟩) (fun i => i ≤ ((grS (l.take 2000) 10 0 k1 []).2).length) (fun i => ((grS (l.take 2000) 10 0 k1 []).2).length - i) 0 (by simp) ⟨rfl, rfl, rfl, rfl, trivial⟩ rfl ?_; intro i ρ hi; simp only [updL]; (try simp only [nA, Nat.reduceBEq, Nat.reduceEqDiff, ↓reduceIte, Nat.reduceAdd, Nat.reduceSub])
    (refine AW.seq_k ?_; intro K hK)
    refine AW.region ?_
    refine awP (op_lss rfl rfl rfl) ?_
    refine AWL.nil ?_
    (refine hK _ ?_; clear hK K; (try simp only [nA, Nat.reduceBEq, Nat.reduceEqDiff, ↓reduceIte, Nat.reduceAdd, Nat.reduceSub]))
    (refine AW.seq_k ?_; intro K hK)
    refine AW.cond rfl rfl rfl (fun hc => ?_) (fun hc => ?_)
    ·
     (skip); have hc4 := hc; have hlt : i < ((grS (l.take 2000) 10 0 k1 []).2).length := (by simpa using hc4)
     refine AW.skip ?_
     (refine hK _ ?_; clear hK K; (try simp only [nA, Nat.reduceBEq, Nat.reduceEqDiff, ↓reduceIte, Nat.reduceAdd, Nat.reduceSub]))
     (refine AW.seq_k ?_; intro K hK)
     refine AW.block ?_
     (refine AW.seq_k ?_; intro K hK)
     refine AW.region ?_
     refine awP (op_move rfl rfl) ?_
     refine awP (op_assign rfl rfl) ?_
     refine AWL.nil ?_
     (refine hK _ ?_; clear hK K; (try simp only [nA, Nat.reduceBEq, Nat.reduceEqDiff, ↓reduceIte, Nat.reduceAdd, Nat.reduceSub]))
     (refine AW.seq_k ?_; intro K hK)
     refine AW.quiet mix (by kernel_rfl) ?_
     (first | refine aqP (op_fa_ptr rfl rfl rfl fl26_4 (by exact sz22) (by decide) rfl) ?_ | refine aqP (op_fa_rop rfl rfl fl26_4 (by exact sz22) (by decide) (Nat.le_of_ble_eq_true rfl) rfl) ?_)
     (first | refine aqR (op_load_ptr1 rfl rfl rfl rfl ag22 rfl rfl) ?_ | refine aqR (op_load_rop1 rfl rfl ag22) ?_)
     refine aqP (op_move rfl rfl) ?_
     refine aqP (op_ia_ro i rfl (.inl rfl) rfl Try.underlying22 rfl (get_mapD (by omega)) (by exact sz75) (Nat.le_of_ble_eq_true rfl)) ?_
     (first | refine aqR (op_load_ptr rfl rfl rfl rfl ag75 sz75 (Nat.le_of_ble_eq_true rfl) rfl) ?_ | refine aqR (op_load_rop rfl rfl ag75 sz75 (Nat.le_of_ble_eq_true rfl) (by decide) rfl) ?_)
     refine aqP (op_move rfl rfl) ?_
     refine aqP (op_move rfl rfl) ?_
     refine aqP (op_ia_ro i rfl (.inl rfl) rfl Try.underlying22 rfl (get_mapD (by omega)) (by exact sz75) (Nat.le_of_ble_eq_true rfl)) ?_
     (first | refine aqR (op_load_ptr rfl rfl rfl rfl ag75 sz75 (Nat.le_of_ble_eq_true rfl) rfl) ?_ | refine aqR (op_load_rop rfl rfl ag75 sz75 (Nat.le_of_ble_eq_true rfl) (by decide) rfl) ?_)
     refine aqP (op_neq75 (p := ((grS (l.take 2000) 10 0 k1 []).2).getD i default) (q := ((grS (l.take 2000) 10 0 k1 []).2).getD i default) rfl rfl rfl) ?_; (try simp only [nA, Nat.reduceBEq, Nat.reduceEqDiff, ↓reduceIte, Nat.reduceAdd, Nat.reduceSub])
     refine AQ.nil ?_
     (refine hK _ ?_; clear hK K; (try simp only [nA, Nat.reduceBEq, Nat.reduceEqDiff, ↓reduceIte, Nat.reduceAdd, Nat.reduceSub]))
     refine AW.cond rfl rfl rfl (fun hc => ?_) (fun hc => ?_)
     · simp [grEq_self] at hc
     ·
      (skip); have hc5 := hc; skip
      refine AW.skip ?_
      (try simp only [thenE, inBlk, Nat.reduceEqDiff, ↓reduceIte])
      (refine hK _ ?_; clear hK K; (try simp only [nA, Nat.reduceBEq, Nat.reduceEqDiff, ↓reduceIte, Nat.reduceAdd, Nat.reduceSub]))
      refine AW.region ?_
      (first | refine awP (op_addi rfl rfl rfl (by omega)) ?_ | refine awP (op_add rfl rfl rfl rfl) ?_)
      refine awP (op_move rfl rfl) ?_
      skip
      refine AWL.nil ?_
      refine ⟨i + 1, by omega, by omega, ⟨rfl, rfl, rfl, rfl, trivial⟩, (by first | rfl | trivial), (by first | rfl | trivial)⟩
    ·
     (skip); have hc4 := hc; skip
     refine AW.exit ?_; (try simp only [thenE, inBlk, Nat.reduceEqDiff, ↓reduceIte])
     clear hK K
     (refine hK _ ?_; clear hK K; (try simp only [nA, Nat.reduceBEq, Nat.reduceEqDiff, ↓reduceIte, Nat.reduceAdd, Nat.reduceSub]))
     (refine AW.seq_k ?_; intro K hK)
     refine AW.region ?_
     (first | refine awR (op_load_ptr rfl rfl rfl rfl ag26 sz26 (Nat.le_of_ble_eq_true rfl) rfl) ?_ | refine awR (op_load_rop rfl rfl ag26 sz26 (Nat.le_of_ble_eq_true rfl) (by decide) rfl) ?_)
     refine awJ (op_call (b := false) rfl en34 (hOnl) (RL.cons (by first | exact View.same rfl | exact View.nil | exact View.rof | exact View.src .ro | exact View.src .rof | exact View.src (.sl rfl rfl) | exact View.ptr rfl rfl rfl) (RL.nil)) rfl (fun h => by cases h) rfl rfl) ?_; (try simp only [nA, Nat.reduceBEq, Nat.reduceEqDiff, ↓reduceIte, Nat.reduceAdd, Nat.reduceSub])
     refine awP (op_move rfl rfl) ?_
     refine awP (op_extract rfl rfl rfl) ?_
     refine awP (op_extract rfl rfl rfl) ?_
     refine awP (op_extract rfl rfl rfl) ?_
     refine awJ (op_alloc rfl ze26 rfl) ?_; (try simp only [nA, Nat.reduceBEq, Nat.reduceEqDiff, ↓reduceIte, Nat.reduceAdd, Nat.reduceSub])
     refine awJ (op_store rfl rfl rfl rfl rfl rfl sz26 rfl (Nat.le_of_ble_eq_true rfl) rfl) ?_; (try simp only [nA, Nat.reduceBEq, Nat.reduceEqDiff, ↓reduceIte, Nat.reduceAdd, Nat.reduceSub])
     refine awP (op_assign rfl rfl) ?_
     refine awP (op_assign rfl rfl) ?_
     refine AWL.nil ?_
     (refine hK _ ?_; clear hK K; (try simp only [nA, Nat.reduceBEq, Nat.reduceEqDiff, ↓reduceIte, Nat.reduceAdd, Nat.reduceSub]))
     (refine AW.seq_k ?_; intro K hK)
     refine AW.region (AWL.quiet ?_)
     refine aqP (op_move rfl rfl) ?_
     (first | refine aqP (op_eql rfl rfl rfl) ?_ | refine aqP (op_seql rfl rfl rfl) ?_)
     refine aqP (op_move rfl rfl) ?_
     refine' aqAnd' [_, _, _] [109,110,111] rfl rfl rfl rfl rfl rfl rfl rfl rfl rfl rfl rfl (fun hb => ?_) ?_; rotate_left
     ·
      (try simp only [hcS] at hb)
      refine aqP (op_move rfl rfl) ?_
      refine aqP (op_len_ro (n := 0) rfl rfl Try.underlying24 (.inr (.inl ⟨_, rfl, rfl⟩))) ?_
      (first | refine aqP (op_eql rfl rfl rfl) ?_ | refine aqP (op_seql rfl rfl rfl) ?_)
      (refine aqSeg rfl rfl rfl ?_; repeat (first | exact fun _ _ => rfl | refine upd_out rfl ?_ | refine era_out rfl ?_))
     (try simp only [nA, Nat.reduceBEq, Nat.reduceEqDiff, ↓reduceIte, Nat.reduceAdd, Nat.reduceSub])
     refine aqP (op_move rfl rfl) ?_
     refine' aqAnd' [_, _, _] [114,115,116] rfl rfl rfl rfl rfl rfl rfl rfl rfl rfl rfl rfl (fun hb => ?_) ?_; rotate_left
     ·
      (try simp only [hcS] at hb)
      (first | refine aqR (op_load_ptr rfl rfl rfl rfl ag26 sz26 (Nat.le_of_ble_eq_true rfl) rfl) ?_ | refine aqR (op_load_rop rfl rfl ag26 sz26 (Nat.le_of_ble_eq_true rfl) (by decide) rfl) ?_)
      refine aqP (op_build2 (xs := [_, _, _, .v (.bool false), .v (.slice none 0 0), .v (.slice none 0 0), .v (.slice none 0 0)]) rfl pl26 ze26 [(0, [_]), (1, [_]), (2, [_])] rfl rfl rfl) ?_
      refine aqQ (op_callQ (b := true) rfl en15 (hSame) (RL.cons (by first | exact View.same rfl | exact View.nil | exact View.rof | exact View.src .ro | exact View.src .rof | exact View.src (.sl rfl rfl) | exact View.ptr rfl rfl rfl) (RL.cons (by first | exact View.same rfl | exact View.nil | exact View.rof | exact View.src .ro | exact View.src .rof | exact View.src (.sl rfl rfl) | exact View.ptr rfl rfl rfl) (RL.nil))) rfl) ?_; (try simp only [nA, Nat.reduceBEq, Nat.reduceEqDiff, ↓reduceIte, Nat.reduceAdd, Nat.reduceSub])
      (refine aqSeg rfl rfl rfl ?_; repeat (first | exact fun _ _ => rfl | refine upd_out rfl ?_ | refine era_out rfl ?_))
     (try simp only [nA, Nat.reduceBEq, Nat.reduceEqDiff, ↓reduceIte, Nat.reduceAdd, Nat.reduceSub])
     refine aqP (op_move rfl rfl) ?_
     refine' aqAnd' [_] [119] rfl rfl rfl rfl rfl rfl rfl rfl rfl rfl rfl rfl (fun hb => ?_) ?_; rotate_left
     ·
      (try simp only [hcS] at hb)
      refine aqQ (op_callQ (b := true) rfl en24 (C24) (RL.nil) rfl) ?_; (try simp only [nA, Nat.reduceBEq, Nat.reduceEqDiff, ↓reduceIte, Nat.reduceAdd, Nat.reduceSub])
      (refine aqSeg rfl rfl rfl ?_; repeat (first | exact fun _ _ => rfl | refine upd_out rfl ?_ | refine era_out rfl ?_))
     (try simp only [nA, Nat.reduceBEq, Nat.reduceEqDiff, ↓reduceIte, Nat.reduceAdd, Nat.reduceSub])
     refine aqP (op_assign rfl rfl) ?_
     refine AQ.nil ?_
     (refine hK _ ?_; clear hK K; (try simp only [nA, Nat.reduceBEq, Nat.reduceEqDiff, ↓reduceIte, Nat.reduceAdd, Nat.reduceSub]))
     skip
     refine AW.ret ?_; (try simp only [thenE, inBlk, Nat.reduceEqDiff, ↓reduceIte]); exact RQ.of0 rfl (.tmp (Nat.le_of_ble_eq_true rfl) rfl rfl .nil)
end Go.Proofs.Ytdnofpggdddimaa
namespace Go.Proofs.Ytdnofpggdddimaa
open Go.RowKit
set_option linter.unusedSimpArgs false
set_option linter.unusedVariables false
inductive Sh where
  | int (k : IntKind)
  | str
  | bool
  | sl (row : List Sh)
inductive Mt : AV → Sh → Prop
  | int {k : IntKind} {n : Int} (h : (Lit.int k n).wf = true) : Mt (.v (.int k n)) (.int k)
  | str {s : ByteArray} (h : s.size ≤ maxLen) : Mt (.v (.string s)) .str
  | bool {b : Bool} : Mt (.v (.bool b)) .bool
  | sl {row : List Sh} {es : List (List AV)} (hs : es.length ≤ maxLen) (h : ∀ e ∈ es, e.length = row.length) (hc : ∀ e ∈ es, ∀ (i : Nat) (x : AV) (s : Sh), e[i]? = some x → row[i]? = some s → Mt x s) : Mt (.ro es) (.sl row)
theorem Mt.rows {es : List (List AV)} {row : List Sh} (h : Mt (.ro es) (.sl row)) : ∀ e ∈ es, RL Mt e row := by
  cases h with
  | sl hs h hc => exact fun e he => ⟨h e he, hc e he⟩
theorem rows_of {α : Type} {f : α → List AV} : ∀ {es : List (List AV)}, (∀ e ∈ es, ∃ p, e = f p) → ∃ ps : List α, es = ps.map f
  | [], _ => ⟨[], rfl⟩
  | e :: es, h => by
    obtain ⟨p, rfl⟩ := h e (by simp)
    obtain ⟨ps, rfl⟩ := rows_of (es := es) fun e he => h e (by simp [he])
    exact ⟨p :: ps, rfl⟩
def fieldsSh (sh : TypeId → Option (List Sh)) (P : Program) : Nat → List Field → Option (List Sh)
  | _, [] => some []
  | o, f :: fs => if f.offset = o then (sh f.type).bind fun r => if r.length = P.cellsOf f.type then (fieldsSh sh P (o + r.length) fs).map (r ++ ·) else none else none
def copies (r : List Sh) : Nat → List Sh
  | 0 => []
  | n + 1 => r ++ copies r n
def shOf (P : Program) : Nat → TypeId → Option (List Sh)
  | 0, _ => none
  | n + 1, t => match P.underlying t with
    | some (.int k) => some [.int k]
    | some .string => some [.str]
    | some .bool => some [.bool]
    | some (.slice e) => (shOf P n e).map fun r => [.sl r]
    | some (.struct fs) => (fieldsSh (shOf P n) P 0 fs.toList).bind fun r => if r.length = P.cellsOf t then some r else none
    | some (.array k e) => (shOf P n e).bind fun r => if r.length = P.cellsOf e ∧ P.cellsOf t = k * P.cellsOf e then some (copies r k) else none
    | _ => none
theorem RL.cons' {α β : Type} {R : α → β → Prop} {us : List α} {xs : List β} {u : α} (h : RL R (u :: us) xs) : ∃ x xs', xs = x :: xs' ∧ R u x ∧ RL R us xs' := by
  cases xs with
  | nil => have := h.1; simp at this
  | cons x xs => exact ⟨x, xs, rfl, h.2 0 u x rfl rfl, by have := h.1; simpa using this, fun i a b ha hb => h.2 (i + 1) a b (by simpa using ha) (by simpa using hb)⟩
theorem take_split {α : Type} (l : List α) (o m n : Nat) : (l.drop o).take (m + n) = (l.drop o).take m ++ (l.drop (o + m)).take n := by
  rw [List.take_add, List.drop_drop]
theorem flat_idx {α : Type} {sz : Nat} : ∀ {es : List (List α)}, (∀ e ∈ es, e.length = sz) → ∀ {j : Nat}, j < es.flatten.length → ∃ e u, es[j / sz]? = some e ∧ e[j % sz]? = some u ∧ es.flatten[j]? = some u
  | [], _, j, h => by simp at h
  | e :: es, hs, j, h => by
    have he : e.length = sz := hs e (by simp)
    have hs' : ∀ e ∈ es, e.length = sz := fun e he => hs e (by simp [he])
    rw [List.flatten_cons] at h ⊢
    by_cases hj : j < sz
    · rw [List.getElem?_append_left (by omega), Nat.div_eq_of_lt hj, Nat.mod_eq_of_lt hj]
      exact ⟨e, e[j]'(by omega), rfl, List.getElem?_eq_getElem _, List.getElem?_eq_getElem _⟩
    · rw [List.length_append] at h
      obtain ⟨e1, u, h1, h2, h3⟩ := flat_idx hs' (j := j - sz) (by omega)
      have h0 : 0 < sz := by
        rcases Nat.eq_zero_or_pos sz with h0 | h0
        · subst h0
          have : es.flatten = [] := List.flatten_eq_nil_iff.2 fun e he => List.eq_nil_of_length_eq_zero (hs' e he)
          rw [this] at h
          simp at h
          omega
        · exact h0
      rw [List.getElem?_append_right (by omega), he, Nat.div_eq_sub_div h0 (by omega), Nat.mod_eq_sub_mod (by omega)]
      exact ⟨e1, u, by simpa using h1, h2, h3⟩
section
variable {H : Type} {enc : TypeId × Value → H} {P : Program} {w : World} {base : Nat} {spare : Nat → Bool} {held : Bool}
theorem fields_open {S : Nat → Prop} {sh : TypeId → Option (List Sh)} {n : Nat} {cs : List Value} (ih : ∀ t cs x r, sh t = some r → DataW.trod enc P w base spare held n t cs = some x → ∃ xs, RL (Rep P S w []) cs xs ∧ RL Mt xs r) :
    ∀ (fs : List Field) (o : Nat) (r : List Sh), fieldsSh sh P o fs = some r → (∀ f ∈ fs, ∃ y, DataW.trod enc P w base spare held n f.type ((cs.drop f.offset).take (P.cellsOf f.type)) = some y) →
      ∃ xs, RL (Rep P S w []) ((cs.drop o).take r.length) xs ∧ RL Mt xs r
  | [], o, r, h, _ => by
    simp only [fieldsSh, Option.some.injEq] at h
    subst h
    exact ⟨[], by simpa using RL.nil, RL.nil⟩
  | f :: fs, o, r, h, hf => by
    unfold fieldsSh at h
    split at h
    · rename_i ho
      obtain ⟨r1, h1, h2⟩ := Option.bind_eq_some_iff.1 h
      split at h2
      · rename_i hl
        obtain ⟨r2, h3, h4⟩ := Option.map_eq_some_iff.1 h2
        subst h4
        obtain ⟨y, hy⟩ := hf f (by simp)
        obtain ⟨xs1, a1, a2⟩ := ih _ _ _ _ h1 hy
        obtain ⟨xs2, b1, b2⟩ := fields_open ih fs (o + r1.length) r2 h3 fun f hf' => hf f (by simp [hf'])
        refine ⟨xs1 ++ xs2, ?_, a2.append b2⟩
        rw [List.length_append, take_split]
        rw [ho, ← hl] at a1
        exact a1.append b1
      · cases h2
    · cases h
theorem copies_open {S : Nat → Prop} {r : List Sh} {n c : Nat} {e : TypeId} {cs : List Value} (hr : r.length = c) (ih : ∀ cs x, DataW.trod enc P w base spare held n e cs = some x → ∃ xs, RL (Rep P S w []) cs xs ∧ RL Mt xs r) :
    ∀ (m o : Nat), (∀ i, i < m → ∃ y, DataW.trod enc P w base spare held n e ((cs.drop (o + i * c)).take c) = some y) → ∃ xs, RL (Rep P S w []) ((cs.drop o).take (m * c)) xs ∧ RL Mt xs (copies r m)
  | 0, o, _ => ⟨[], by simpa using RL.nil, RL.nil⟩
  | m + 1, o, h => by
    obtain ⟨y, hy⟩ := h 0 (by omega)
    rw [Nat.zero_mul, Nat.add_zero] at hy
    obtain ⟨xs1, a1, a2⟩ := ih _ _ hy
    obtain ⟨xs2, b1, b2⟩ := copies_open hr ih m (o + c) fun i hi => by
      have := h (i + 1) (by omega)
      rw [show o + (i + 1) * c = o + c + i * c by rw [Nat.succ_mul]; omega] at this
      exact this
    refine ⟨xs1 ++ xs2, ?_, a2.append b2⟩
    rw [Nat.succ_mul, Nat.add_comm (m * c) c, take_split]
    exact a1.append b1
theorem Rep.small {S : Nat → Prop} {A : Option Addr} {len c : Nat} {es : List (List AV)} (h : Rep P S w [] (.slice A len c) (.ro es)) : es.length ≤ maxLen := by
  obtain ⟨-, A', c', sz, us, e, h1, h2, -⟩ := h.ro_inv
  exact Nat.le_trans h1 h2
theorem open_sh : ∀ (m fuel : Nat) (t : TypeId) (cs : List Value) (x : DataW H × List MemPlace) (r : List Sh), shOf P m t = some r → DataW.trod enc P w base spare held fuel t cs = some x → ∃ xs, RL (Rep P (fun k => k < w.heap.size) w []) cs xs ∧ RL Mt xs r
  | 0, _, _, _, _, _, h, _ => by simp [shOf] at h
  | m + 1, fuel, t, cs, x, r, h, hx => by
    unfold shOf at h
    split at h
    · rename_i k ht
      injection h with h; subst h
      obtain ⟨n, rfl, _, hw⟩ := DataW.trod_int ht hx
      exact ⟨_, .cons (.v rfl) .nil, .cons (.int hw) .nil⟩
    · rename_i ht
      injection h with h; subst h
      obtain ⟨s, rfl, _, hw⟩ := DataW.trod_string ht hx
      exact ⟨_, .cons (.v rfl) .nil, .cons (.str hw) .nil⟩
    · rename_i ht
      injection h with h; subst h
      obtain ⟨b, rfl, _⟩ := DataW.trod_bool ht hx
      exact ⟨_, .cons (.v rfl) .nil, .cons .bool .nil⟩
    · rename_i e ht
      obtain ⟨row, h1, h2⟩ := Option.map_eq_some_iff.1 h
      subst h2
      rcases Go.Deep.open_slice ht hx with ⟨rfl, _⟩ | ⟨a, len, cap, mm, n, D, Pl, rfl, hb, hl, hm, hmm, _, hel⟩
      · exact ⟨_, .cons rep_ro_nil .nil, .cons (.sl (Nat.zero_le _) (by simp) (by simp)) .nil⟩
      · have hlm : len ≤ mm := by rw [hmm]; split <;> omega
        have key : ∀ i, i < len → ∃ p : List Value × List AV, w.cells? base (a.add (i * P.cellsOf e)) (P.cellsOf e) = some p.1 ∧ RL (Rep P (fun k => k < w.heap.size) w []) p.1 p.2 ∧ RL Mt p.2 row := fun i hi => by
          obtain ⟨cs', c1, c2⟩ := hel i (by omega)
          obtain ⟨xs, c3, c4⟩ := open_sh m _ _ _ _ _ h1 c2
          exact ⟨(cs', xs), c1, c3, c4⟩
        obtain ⟨F, hF⟩ := Go.Deep.choose_lt key
        have lv : ∀ l ∈ (List.range len).map (fun i => (F i).1), l.length = P.cellsOf e := fun l hl' => by
          obtain ⟨i, hi, rfl⟩ := List.mem_map.1 hl'
          exact (World.cells?_some (hF i (List.mem_range.1 hi)).1).2.1
        have lx : ∀ l ∈ (List.range len).map (fun i => (F i).2), l.length = P.cellsOf e := fun l hl' => by
          obtain ⟨i, hi, rfl⟩ := List.mem_map.1 hl'
          rw [← (hF i (List.mem_range.1 hi)).2.1.1]
          exact (World.cells?_some (hF i (List.mem_range.1 hi)).1).2.1
        have hlen : ((List.range len).map fun i => (F i).2).length = len := by simp
        have hfl : ((List.range len).map fun i => (F i).1).flatten.length = ((List.range len).map fun i => (F i).2).flatten.length := by
          rw [List.length_flatten, List.length_flatten]
          congr 1
          rw [List.map_map, List.map_map]
          exact List.map_congr_left fun i hi => (hF i (List.mem_range.1 hi)).2.1.1
        have hrep : Rep P (fun k => k < w.heap.size) w [] (.slice (some a) ((List.range len).map fun i => (F i).2).length cap) (.ro ((List.range len).map fun i => (F i).2)) := by
          refine Rep.ro (sz := P.cellsOf e) (us := ((List.range len).map fun i => (F i).1).flatten) (by rw [hlen]; exact hl) hm lx (fun hn => ?_) hfl fun i u x hu hx' => ?_
          · have hget : ∀ j u, ((List.range len).map fun i => (F i).1).flatten[j]? = some u → w.cell? (a.add j) = some u := fun j u hu => by
              obtain ⟨l, u', q1, q2, q3⟩ := flat_idx lv (j := j) (List.getElem?_eq_some_iff.1 hu).1
              rw [q3] at hu
              injection hu with hu; subst hu
              rw [List.getElem?_map] at q1
              have hq : j / P.cellsOf e < len := by
                have := (List.getElem?_eq_some_iff.1 (show ((List.range len).map fun i => (F i).1)[j / P.cellsOf e]? = some l by rw [List.getElem?_map]; exact q1)).1
                simpa using this
              rw [List.getElem?_range hq] at q1
              injection q1 with q1; subst q1
              have hc := (World.cells?_some (hF _ hq).1)
              have hp : 0 < P.cellsOf e := by
                have := (List.getElem?_eq_some_iff.1 q2).1
                rw [hc.2.1] at this; omega
              have hcell := hc.2.2 (j % P.cellsOf e) (Nat.mod_lt _ hp)
              rw [q2, Go.Deep.add_add, Nat.mul_comm, Nat.div_add_mod] at hcell
              exact hcell
            have h0 := hget 0 _ (List.getElem?_eq_getElem hn)
            obtain ⟨g, o, sp⟩ := a
            have : sp = none := by simpa [Addr.add] using World.cell?_spot h0
            subst this
            refine ⟨g, o, rfl, World.block_lt_of_cell? w _ h0, fun j u hu => ?_⟩
            have := hget j u hu
            rw [add_off] at this
            exact this
          · obtain ⟨l, u', q1, q2, q3⟩ := flat_idx lv (j := i) (List.getElem?_eq_some_iff.1 hu).1
            obtain ⟨l2, u2, p1, p2, p3⟩ := flat_idx lx (j := i) (List.getElem?_eq_some_iff.1 hx').1
            rw [q3] at hu
            injection hu with hu; subst hu
            rw [p3] at hx'
            injection hx' with hx'; subst hx'
            rw [List.getElem?_map] at q1 p1
            have hq : i / P.cellsOf e < len := by
              have := (List.getElem?_eq_some_iff.1 (show ((List.range len).map fun i => (F i).1)[i / P.cellsOf e]? = some l by rw [List.getElem?_map]; exact q1)).1
              simpa using this
            rw [List.getElem?_range hq] at q1 p1
            injection q1 with q1; subst q1
            injection p1 with p1; subst p1
            exact (hF _ hq).2.1.2 _ _ _ q2 p2
        rw [hlen] at hrep
        refine ⟨_, .cons hrep .nil, .cons (.sl hrep.small (fun l hl' => ?_) fun l hl' => ?_) .nil⟩
        · obtain ⟨i, hi, rfl⟩ := List.mem_map.1 hl'
          exact (hF i (List.mem_range.1 hi)).2.2.1
        · obtain ⟨i, hi, rfl⟩ := List.mem_map.1 hl'
          exact (hF i (List.mem_range.1 hi)).2.2.2
    · rename_i fs ht
      obtain ⟨r1, h1, h2⟩ := Option.bind_eq_some_iff.1 h
      split at h2
      · rename_i hl
        injection h2 with h2; subst h2
        obtain ⟨ys, n, _, _, hcl, hyl, hf⟩ := DataW.trod_struct ht hx
        obtain ⟨xs, a1, a2⟩ := fields_open (fun t cs x r => open_sh m n t cs x r) fs.toList 0 r1 h1 (cs := cs) fun f hf' => by
          obtain ⟨i, hi, rfl⟩ := List.getElem_of_mem hf'
          have := hf i fs.toList[i] (by simp at hi; simp [hi])
          exact ⟨_, this.trans (List.getElem?_eq_getElem (by rw [hyl]; simpa using hi))⟩
        rw [List.drop_zero, hl, ← hcl, List.take_length] at a1
        exact ⟨xs, a1, a2⟩
      · cases h2
    · rename_i k e ht
      obtain ⟨r1, h1, h2⟩ := Option.bind_eq_some_iff.1 h
      split at h2
      · rename_i hl
        injection h2 with h2; subst h2
        obtain ⟨ys, n, _, _, hcl, hyl, hf⟩ := DataW.trod_array ht hx
        obtain ⟨xs, a1, a2⟩ := copies_open (cs := cs) hl.1 (fun cs x hx => open_sh m n e cs x r1 h1 hx) k 0 fun i hi => by
          have := hf i hi
          rw [Nat.zero_add]
          exact ⟨_, this.trans (List.getElem?_eq_getElem (by omega))⟩
        rw [List.drop_zero, ← hl.2, ← hcl, List.take_length] at a1
        exact ⟨xs, a1, a2⟩
      · cases h2
    · cases h
/-- A datum of one cell. -/
theorem open_one {m : Nat} {t : TypeId} {v : Value} {s : Sh} {d : DataW H} {ps : List MemPlace} (hs : shOf P m t = some [s]) (hv : v.cells = #[v]) (h : DataW.Trod enc P w base spare held t v d ps) : ∃ x, AggOK P (fun k => k < w.heap.size) w (insT []) [] v x ∧ Mt x s := by
  obtain ⟨fuel, hf⟩ := h
  rw [hv] at hf
  obtain ⟨xs, a1, a2⟩ := open_sh m fuel t [v] _ [s] hs hf
  obtain ⟨x, xs', rfl, b1, b2⟩ := a1.cons'
  obtain ⟨x2, xs2, q, c1, -⟩ := a2.cons'
  injection q with q _
  subst q
  refine ⟨x, ?_, c1⟩
  have hr := b1.ref (T := insT []) (vals := [])
  cases c1 <;> exact hr
end
theorem Spec.small {P : Program} {f : FuncId} {ins xs : List AV} {Q : List AV → List AV → Prop} {es : List (List AV)} (k : Nat) (hk : xs[k]? = some (.ro es)) (h : es.length ≤ 9223372036854775807 → Spec P f ins xs Q) : Spec P f ins xs Q := fun w S vals bss vs c => by
  obtain ⟨u, hu, hr⟩ := c.args.at_ hk
  have hr : Rep P S w [] u (.ro es) := hr
  obtain ⟨-, A, cc, sz, us, e, h1, h2, -⟩ := hr.ro_inv
  exact h (Nat.le_trans (Nat.le_trans h1 h2) (by decide)) w S vals bss vs c
/-- What a cell may hold, taken apart. -/
theorem Mt.i64 {x : AV} (h : Mt x (.int .i64)) : ∃ n, x = .v (.int .i64 n) := by cases h; exact ⟨_, rfl⟩
theorem Mt.u8 {x : AV} (h : Mt x (.int .u8)) : ∃ n, x = .v (.int .u8 n) := by cases h; exact ⟨_, rfl⟩
theorem Mt.sl_ {x : AV} {r : List Sh} (h : Mt x (.sl r)) : ∃ es, x = .ro es := by cases h; exact ⟨_, rfl⟩
end Go.Proofs.Ytdnofpggdddimaa
namespace Go.Proofs.Ytdnofpggdddimaa
open Go.RowKit
set_option linter.unusedSimpArgs false
set_option linter.unusedVariables false
set_option maxRecDepth 100000
abbrev decIntSh : List Sh := [.int .i64]
theorem decInt {xs : List AV} (h : RL Mt xs decIntSh) : ∃ c : Int, xs = iv c := by
  obtain ⟨x0, xs, rfl, h0, h⟩ := h.cons_inv
  obtain rfl := h.nil_inv
  obtain ⟨v0, rfl⟩ := Mt.i64 h0
  exact ⟨v0, rfl⟩
abbrev decIntsSh : Sh := .sl decIntSh
theorem decInts {x : AV} (h : Mt x decIntsSh) : ∃ l : List Int, x = .ro (l.map iv) := by
  obtain ⟨es, rfl⟩ := h.sl_
  obtain ⟨l, rfl⟩ := rows_of fun e he => decInt (h.rows e he)
  exact ⟨l, rfl⟩
abbrev decPieceSh : List Sh := [.int .i64, .int .i64, .int .i64, .int .i64, .int .i64]
abbrev decPlateSh : List Sh := [.int .i64, .int .i64, .int .i64]
abbrev decContSh : List Sh := [.int .i64, .str, .int .i64, .str, .int .i64, .int .i64, .int .i64, .int .i64, .int .i64, .int .i64, .sl decPieceSh]
abbrev decContsSh : Sh := .sl decContSh
end Go.Proofs.Ytdnofpggdddimaa
