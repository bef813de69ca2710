import Derived.Test.YtbbedhidiffdgaaCr
import Derived.Test.YtbbedhidiffdgaaAbJ
namespace Go.Proofs.Ytbbedhidiffdgaa
open Go.RowKit
set_option linter.unusedSimpArgs false
set_option linter.unusedVariables false

/-! ### Validates -/
abbrev lav (l : List Cart) : List AV := [.ro (l.map Cart.av)]
theorem lav_flat (ls : List (List Cart)) : ∀ r ∈ ls.map lav, ∀ c ∈ r, flatA c = true := fun r hr c hc => by
  obtain ⟨l, _, rfl⟩ := List.mem_map.1 hr
  simp only [lav, List.mem_cons, List.not_mem_nil, or_false] at hc
  subst hc
  rfl
def Fit (ys : List Cart) : Prop := ys.length ≤ 1000 ∧ ∀ c ∈ ys, c.plates.length ≤ 1000
theorem inv_fit {xs : List Cart} (h : Inv xs) : Fit xs := inv_bd h
theorem inv_500 {xs : List Cart} (h : Inv xs) : xs.length ≤ 500 ∧ ∀ c ∈ xs, c.plates.length ≤ 500 := ⟨by have := h.len; omega, fun c hc => by have := (valid_inv (h.val c hc)).2.1; omega⟩
theorem fit3 {a b c : List Cart} (h1 : Fit a) (h2 : Fit b) (h3 : Fit c) : ∀ y ∈ [a, b, c], Fit y := fun y hy => by
  simp only [List.mem_cons, List.not_mem_nil, or_false] at hy
  rcases hy with rfl | rfl | rfl <;> assumption
set_option maxHeartbeats 8000000 in
theorem C3 {raw : List Cart} {l : List Int} {p : Plate} : Fn Try.prog 3 [] [.ro (raw.map Cart.av), .ro (l.map iv), .agg p.av] [.v (.bool true)] [] := by
  refine Spec.body Try.func3 rfl Try.ntmps3 (by simp) rfl ?_; intro S0 own0 v0 w0
  (refine AW.seq_k ?_; intro K hK)
  refine AW.region ?_
  refine awJ (op_box rfl rfl rfl sz25 rfl) ?_; (try simp only [nA, Nat.reduceBEq, Nat.reduceEqDiff, ↓reduceIte, Nat.reduceAdd, Nat.reduceSub])
  refine awP (op_assign rfl rfl) ?_
  refine AWL.nil ?_
  (refine hK _ ?_; clear hK K; (try simp only [nA, Nat.reduceBEq, Nat.reduceEqDiff, ↓reduceIte, Nat.reduceAdd, Nat.reduceSub]))
  (refine AW.seq_k ?_; intro K hK)
  (refine AW.seq_k ?_; intro K hK)
  refine AW.region ?_
  refine awP (op_move rfl rfl) ?_
  refine awJ (OpQ.j (op_callQ (b := true) rfl en10 (C10 (xs := raw)) (RL.cons (by first | exact View.same rfl | exact View.nil | exact View.rof | exact View.src .ro | exact View.src .rof | exact View.src (.sl rfl rfl) | exact View.ptr rfl rfl rfl) (RL.nil)) rfl)) ?_; (try simp only [nA, Nat.reduceBEq, Nat.reduceEqDiff, ↓reduceIte, Nat.reduceAdd, Nat.reduceSub])
  refine awP (op_not rfl rfl rfl) ?_
  refine AWL.nil ?_
  (refine hK _ ?_; clear hK K; (try simp only [nA, Nat.reduceBEq, Nat.reduceEqDiff, ↓reduceIte, Nat.reduceAdd, Nat.reduceSub]))
  refine AW.cond rfl rfl rfl (fun hc => ?_) (fun hc => ?_)
  ·
   (try simp only [hcS] at hc); have hc1 := hc; skip
   (refine AW.seq_k ?_; intro K hK)
   refine AW.region ?_
   refine awP (op_assign rfl rfl) ?_
   refine AWL.nil ?_
   (refine hK _ ?_; clear hK K; (try simp only [nA, Nat.reduceBEq, Nat.reduceEqDiff, ↓reduceIte, Nat.reduceAdd, Nat.reduceSub]))
   skip
   refine AW.ret ?_; (try simp only [thenE, inBlk, Nat.reduceEqDiff, ↓reduceIte]); exact RQ.of0 rfl (.tmp (Nat.le_of_ble_eq_true rfl) rfl rfl .nil)
  ·
   (try simp only [hcS] at hc); have hc1 := hc; have hraw := few_bd (xs := raw) (by simpa using hc1); have hinv := fil_inv (l.take 2000) 0 40; have h5 := inv_500 hinv; have hfit : ∀ y ∈ [raw, (filV (l.take 2000) 0 40).1, (spoilV (l.take 2000) (filV (l.take 2000) 0 40).2 (filV (l.take 2000) 0 40).1).1], Fit y := fit3 hraw (inv_fit hinv) (spoil_bd (l.take 2000) (filV (l.take 2000) 0 40).2 h5)
   refine AW.skip ?_
   (refine hK _ ?_; clear hK K; (try simp only [nA, Nat.reduceBEq, Nat.reduceEqDiff, ↓reduceIte, Nat.reduceAdd, Nat.reduceSub]))
   (refine AW.seq_k ?_; intro K hK)
   refine AW.region ?_
   refine awP (op_move rfl rfl) ?_
   refine awJ (op_callB rfl en11 (C11) (RL.cons (by first | exact View.same rfl | exact View.nil | exact View.rof | exact View.src .ro | exact View.src .rof | exact View.src (.sl rfl rfl) | exact View.ptr rfl rfl rfl) (RL.nil))) ?_; (try simp only [nA, Nat.reduceBEq, Nat.reduceEqDiff, ↓reduceIte, Nat.reduceAdd, Nat.reduceSub])
   refine awP (op_assign rfl rfl) ?_
   refine AWL.nil ?_
   (refine hK _ ?_; clear hK K; (try simp only [nA, Nat.reduceBEq, Nat.reduceEqDiff, ↓reduceIte, Nat.reduceAdd, Nat.reduceSub]))
   (refine AW.seq_k ?_; intro K hK)
   refine AW.region ?_
   refine awP (op_move rfl rfl) ?_
   refine awJ (op_call1 rfl en12 (C12 (l := (l.take 2000)) (k := 0) (n := 40) (by simp; omega) (by decide)) (by exact rfl) (RL.cons .ptr (RL.cons (.base (by first | exact View.same rfl | exact View.nil | exact View.rof | exact View.src .ro | exact View.src .rof | exact View.src (.sl rfl rfl) | exact View.ptr rfl rfl rfl)) (RL.nil))) (by exact ⟨_, _, _, rfl, rfl, rfl⟩) (by exact rfl) (by exact rfl) (by exact rfl)) ?_; (try simp only [nA, Nat.reduceBEq, Nat.reduceEqDiff, ↓reduceIte, Nat.reduceAdd, Nat.reduceSub])
   refine awP (op_assign rfl rfl) ?_
   refine AWL.nil ?_
   (refine hK _ ?_; clear hK K; (try simp only [nA, Nat.reduceBEq, Nat.reduceEqDiff, ↓reduceIte, Nat.reduceAdd, Nat.reduceSub]))
   (refine AW.seq_k ?_; intro K hK)
   (refine AW.seq_k ?_; intro K hK)
   refine AW.region ?_
   refine awP (op_move rfl rfl) ?_
   refine awP (op_move rfl rfl) ?_
   refine awP (op_move rfl rfl) ?_
   refine awP (op_move rfl rfl) ?_
   refine awJ (op_call1 rfl en13 (C13 (l := (l.take 2000)) (k := (filV (l.take 2000) 0 40).2) (xs := (filV (l.take 2000) 0 40).1) (by simp; omega) h5.1 h5.2) (by exact rfl) (RL.cons .ptr (RL.cons (.base (by first | exact View.same rfl | exact View.nil | exact View.rof | exact View.src .ro | exact View.src .rof | exact View.src (.sl rfl rfl) | exact View.ptr rfl rfl rfl)) (RL.nil))) (by exact ⟨_, _, _, rfl, rfl, rfl⟩) (by exact rfl) (by exact rfl) (by exact rfl)) ?_; (try simp only [nA, Nat.reduceBEq, Nat.reduceEqDiff, ↓reduceIte, Nat.reduceAdd, Nat.reduceSub])
   refine awJ (OpJ.frz (op_buildSlice rfl [(0, lav raw), (1, lav (filV (l.take 2000) 0 40).1), (2, lav (spoilV (l.take 2000) (filV (l.take 2000) 0 40).2 (filV (l.take 2000) 0 40).1).1)] ([raw, (filV (l.take 2000) 0 40).1, (spoilV (l.take 2000) (filV (l.take 2000) 0 40).2 (filV (l.take 2000) 0 40).1).1].map lav) Try.underlying31 ze22 rfl (by simp) rfl (by simp) rfl (Nat.le_of_ble_eq_true rfl) (by simp [maxLen])) (lav_flat [raw, (filV (l.take 2000) 0 40).1, (spoilV (l.take 2000) (filV (l.take 2000) 0 40).2 (filV (l.take 2000) 0 40).1).1]) rfl) ?_; (try simp only [nA, Nat.reduceBEq, Nat.reduceEqDiff, ↓reduceIte, Nat.reduceAdd, Nat.reduceSub]); skip; (try simp only [nA, Nat.reduceBEq, Nat.reduceEqDiff, ↓reduceIte, Nat.reduceAdd, Nat.reduceSub])
   (first | refine awP (op_len_ro rfl rfl Try.underlying31 (by first | exact .inr (.inl ⟨_, rfl, rfl⟩) | exact .inl rfl | exact .inr (.inr (.inl ⟨_, rfl, rfl⟩)) | exact .inr (.inr (.inr ⟨rfl, rfl⟩)))) ?_ | refine awP (op_len_sl rfl rfl rfl Try.underlying31) ?_ | refine awP (op_len_str rfl rfl Try.underlying31) ?_)
   refine awP (op_move rfl rfl) ?_
   refine AWL.nil ?_
   (refine hK _ ?_; clear hK K; (try simp only [nA, Nat.reduceBEq, Nat.reduceEqDiff, ↓reduceIte, Nat.reduceAdd, Nat.reduceSub]))
   refine AW.block ?_
   obtain ⟨ls, hls⟩ : ∃ ls, ls = [raw, (filV (l.take 2000) 0 40).1, (spoilV (l.take 2000) (filV (l.take 2000) 0 40).2 (filV (l.take 2000) 0 40).1).1] := ⟨_, rfl⟩; have hll : ls.length = 3 := (by rw [hls]; rfl); rw [← hls] at hfit; refine AW.loopI (fun (q : Nat × Nat × Nat) => [(5, .ptr 0 1 0 0), (7, .ptr 1 2 0 0), (29, .ro (ls.map lav)), (30, .v (.int .i64 (3 : Nat))), (31, .v (.int .i64 (q.1 : Nat)))]) (fun q => ⟨[(1, .own 25 [p.av]), (2, .own 63 [srcRow (l.take 2000) q.2.1])], q.2.2⟩) (fun q => q.1 ≤ 3) (fun q => 3 - q.1) (0, (spoilV (l.take 2000) (filV (l.take 2000) 0 40).2 (filV (l.take 2000) 0 40).1).2, _) (by simp) ⟨rfl, rfl, by rw [hls]; rfl, rfl, rfl, trivial⟩ rfl ?_; rintro ⟨i, k, e⟩ ρ hi; simp only at hi; simp only [updL]; (try simp only [nA, Nat.reduceBEq, Nat.reduceEqDiff, ↓reduceIte, Nat.reduceAdd, Nat.reduceSub])
   (refine AW.seq_k ?_; intro K hK)
   refine AW.region ?_
   refine awP (op_lss rfl rfl rfl) ?_
   refine AWL.nil ?_
   (refine hK _ ?_; clear hK K; (try simp only [nA, Nat.reduceBEq, Nat.reduceEqDiff, ↓reduceIte, Nat.reduceAdd, Nat.reduceSub]))
   (refine AW.seq_k ?_; intro K hK)
   refine AW.cond rfl rfl rfl (fun hc => ?_) (fun hc => ?_)
   ·
    (try simp only [hcS] at hc); have hc2 := hc; have hlt : i < ls.length := (by rw [hll]; omega); obtain ⟨ys, hyi⟩ : ∃ ys, ls[i]? = some ys := ⟨ls[i], List.getElem?_eq_getElem hlt⟩; have hF := hfit ys (List.mem_of_getElem? hyi)
    refine AW.skip ?_
    (refine hK _ ?_; clear hK K; (try simp only [nA, Nat.reduceBEq, Nat.reduceEqDiff, ↓reduceIte, Nat.reduceAdd, Nat.reduceSub]))
    (refine AW.seq_k ?_; intro K hK)
    refine AW.block ?_
    (refine AW.seq_k ?_; intro K hK)
    refine AW.region ?_
    (first | refine awP (op_ia_ro i rfl (.inl rfl) rfl Try.underlying31 rfl (get_of hyi) (by exact sz22) (Nat.le_of_ble_eq_true rfl)) ?_ | refine awP (op_ia_sl _ _ rfl rfl rfl rfl Try.underlying31 rfl (by omega) (by exact sz22) rfl) ?_)
    (first | refine awR (op_load_ptr1 rfl rfl rfl rfl ag22 rfl rfl) ?_ | refine awR (op_load_rop1 rfl rfl ag22) ?_)
    refine awP (op_assign rfl rfl) ?_
    refine AWL.nil ?_
    (refine hK _ ?_; clear hK K; (try simp only [nA, Nat.reduceBEq, Nat.reduceEqDiff, ↓reduceIte, Nat.reduceAdd, Nat.reduceSub]))
    (refine AW.seq_k ?_; intro K hK)
    (refine AW.seq_k ?_; intro K hK)
    refine AW.region ?_
    refine awP (op_move rfl rfl) ?_
    refine awJ (OpQ.j (op_callQ (b := true) rfl en14 (C14 (xs := ys) (by have := hF.1; omega)) (RL.cons (by first | exact View.same rfl | exact View.nil | exact View.rof | exact View.src .ro | exact View.src .rof | exact View.src (.sl rfl rfl) | exact View.ptr rfl rfl rfl) (RL.nil)) rfl)) ?_; (try simp only [nA, Nat.reduceBEq, Nat.reduceEqDiff, ↓reduceIte, Nat.reduceAdd, Nat.reduceSub])
    refine awP (op_move rfl rfl) ?_
    refine awJ (OpQ.j (op_callQ (b := true) rfl en15 (C15 (xs := ys) hF.1 hF.2) (RL.cons (by first | exact View.same rfl | exact View.nil | exact View.rof | exact View.src .ro | exact View.src .rof | exact View.src (.sl rfl rfl) | exact View.ptr rfl rfl rfl) (RL.nil)) rfl)) ?_; (try simp only [nA, Nat.reduceBEq, Nat.reduceEqDiff, ↓reduceIte, Nat.reduceAdd, Nat.reduceSub])
    (first | refine awP (op_neq rfl rfl rfl) ?_ | refine awP (op_sneq rfl rfl rfl) ?_)
    refine AWL.nil ?_
    (refine hK _ ?_; clear hK K; (try simp only [nA, Nat.reduceBEq, Nat.reduceEqDiff, ↓reduceIte, Nat.reduceAdd, Nat.reduceSub]))
    refine AW.cond rfl rfl rfl (fun hc => ?_) (fun hc => ?_)
    ·
     (try simp only [hcS] at hc); have hc3 := hc; skip
     (refine AW.seq_k ?_; intro K hK)
     refine AW.region ?_
     refine awP (op_assign rfl rfl) ?_
     refine AWL.nil ?_
     (refine hK _ ?_; clear hK K; (try simp only [nA, Nat.reduceBEq, Nat.reduceEqDiff, ↓reduceIte, Nat.reduceAdd, Nat.reduceSub]))
     skip
     refine AW.ret ?_; (try simp only [thenE, inBlk, Nat.reduceEqDiff, ↓reduceIte]); exact absurd trivial hc
    ·
     (try simp only [hcS] at hc); have hc3 := hc; skip
     refine AW.skip ?_
     (refine hK _ ?_; clear hK K; (try simp only [nA, Nat.reduceBEq, Nat.reduceEqDiff, ↓reduceIte, Nat.reduceAdd, Nat.reduceSub]))
     (refine AW.seq_k ?_; intro K hK)
     refine AW.ad [(0, 1, .own 25 [p.av])] mix rfl ?_
     (first | refine adR 0 rfl (fun T' ok => op_load_ptr rfl rfl (by first | exact ok.1 | exact ok.2.1 | exact ok.2.2.1 | exact ok.2.2.2.1) rfl ag25 sz25 (Nat.le_of_ble_eq_true rfl) rfl) (by first | exact trivial | exact ⟨rfl, trivial⟩ | exact ⟨rfl, rfl, trivial⟩ | exact ⟨rfl, rfl, rfl, trivial⟩) (by kernel_rfl) (by kernel_rfl) ?_ | refine adR 0 rfl (fun T' ok => op_load_rop rfl rfl ag25 sz25 (Nat.le_of_ble_eq_true rfl) (by decide) rfl) (by first | exact trivial | exact ⟨rfl, trivial⟩ | exact ⟨rfl, rfl, trivial⟩ | exact ⟨rfl, rfl, rfl, trivial⟩) (by kernel_rfl) (by kernel_rfl) ?_)
     refine adP 1 rfl (fun T' ok => op_move rfl rfl) (by first | exact trivial | exact ⟨rfl, trivial⟩ | exact ⟨rfl, rfl, trivial⟩ | exact ⟨rfl, rfl, rfl, trivial⟩) (by kernel_rfl) (by kernel_rfl) ?_
     refine adP 3 rfl (fun T' ok => op_move rfl rfl) (by first | exact trivial | exact ⟨rfl, trivial⟩ | exact ⟨rfl, rfl, trivial⟩ | exact ⟨rfl, rfl, rfl, trivial⟩) (by kernel_rfl) (by kernel_rfl) ?_
     refine adP 7 rfl (fun T' ok => op_move rfl rfl) (by first | exact trivial | exact ⟨rfl, trivial⟩ | exact ⟨rfl, rfl, trivial⟩ | exact ⟨rfl, rfl, rfl, trivial⟩) (by kernel_rfl) (by kernel_rfl) ?_
     refine adJ 2 rfl (op_call1 rfl en16 (C16 (l := (l.take 2000)) (k := k) (n := 60) (by simp; omega) (by decide)) (by exact rfl) (RL.cons .ptr (RL.cons (.base (by first | exact View.same rfl | exact View.nil | exact View.rof | exact View.src .ro | exact View.src .rof | exact View.src (.sl rfl rfl) | exact View.ptr rfl rfl rfl)) (RL.nil))) (by exact ⟨_, _, _, rfl, rfl, rfl⟩) (by exact rfl) (by exact rfl) (by exact rfl)) (by kernel_rfl) (by first | exact trivial | exact ⟨rfl, trivial⟩ | exact ⟨rfl, rfl, trivial⟩ | exact ⟨rfl, rfl, rfl, trivial⟩) ?_; (try simp only [nA, Nat.reduceBEq, Nat.reduceEqDiff, ↓reduceIte, Nat.reduceAdd, Nat.reduceSub])
     refine adJ 4 rfl (op_call1 rfl en16 (C16 (l := (l.take 2000)) (k := rawN (l.take 2000) k) (n := 60) (by simp; omega) (by decide)) (by exact rfl) (RL.cons .ptr (RL.cons (.base (by first | exact View.same rfl | exact View.nil | exact View.rof | exact View.src .ro | exact View.src .rof | exact View.src (.sl rfl rfl) | exact View.ptr rfl rfl rfl)) (RL.nil))) (by exact ⟨_, _, _, rfl, rfl, rfl⟩) (by exact rfl) (by exact rfl) (by exact rfl)) (by kernel_rfl) (by first | exact trivial | exact ⟨rfl, trivial⟩ | exact ⟨rfl, rfl, trivial⟩ | exact ⟨rfl, rfl, rfl, trivial⟩) ?_; (try simp only [nA, Nat.reduceBEq, Nat.reduceEqDiff, ↓reduceIte, Nat.reduceAdd, Nat.reduceSub])
     refine adJ 5 rfl (OpJ.frz (op_buildSlice rfl [(0, p.av), (1, (platesP (gmod (rawV (l.take 2000) k) 60)).av), (2, (platesP (gmod (rawV (l.take 2000) (rawN (l.take 2000) k)) 60)).av)] ([p, (platesP (gmod (rawV (l.take 2000) k) 60)), (platesP (gmod (rawV (l.take 2000) (rawN (l.take 2000) k)) 60))].map Plate.av) Try.underlying35 ze25 rfl (by simp) rfl (by simp) rfl (Nat.le_of_ble_eq_true rfl) (by simp [maxLen])) (pav_flat [p, (platesP (gmod (rawV (l.take 2000) k) 60)), (platesP (gmod (rawV (l.take 2000) (rawN (l.take 2000) k)) 60))]) rfl) (by kernel_rfl) (by first | exact trivial | exact ⟨rfl, trivial⟩ | exact ⟨rfl, rfl, trivial⟩ | exact ⟨rfl, rfl, rfl, trivial⟩) ?_; (try simp only [nA, Nat.reduceBEq, Nat.reduceEqDiff, ↓reduceIte, Nat.reduceAdd, Nat.reduceSub]); skip; (try simp only [nA, Nat.reduceBEq, Nat.reduceEqDiff, ↓reduceIte, Nat.reduceAdd, Nat.reduceSub])
     (first | refine adP 6 rfl (fun T' ok => op_len_ro rfl rfl Try.underlying35 (by first | exact .inr (.inl ⟨_, rfl, rfl⟩) | exact .inl rfl | exact .inr (.inr (.inl ⟨_, rfl, rfl⟩)) | exact .inr (.inr (.inr ⟨rfl, rfl⟩)))) (by first | exact trivial | exact ⟨rfl, trivial⟩ | exact ⟨rfl, rfl, trivial⟩ | exact ⟨rfl, rfl, rfl, trivial⟩) (by kernel_rfl) (by kernel_rfl) ?_ | refine adP 6 rfl (fun T' ok => op_len_sl rfl rfl (by first | exact ok.1 | exact ok.2.1 | exact ok.2.2.1 | exact ok.2.2.2.1) Try.underlying35) (by first | exact trivial | exact ⟨rfl, trivial⟩ | exact ⟨rfl, rfl, trivial⟩ | exact ⟨rfl, rfl, rfl, trivial⟩) (by kernel_rfl) (by kernel_rfl) ?_ | refine adP 6 rfl (fun T' ok => op_len_str rfl rfl Try.underlying35) (by first | exact trivial | exact ⟨rfl, trivial⟩ | exact ⟨rfl, rfl, trivial⟩ | exact ⟨rfl, rfl, rfl, trivial⟩) (by kernel_rfl) (by kernel_rfl) ?_)
     refine adDone (by kernel_rfl) ?_
     (refine hK _ ?_; clear hK K; (try simp only [nA, Nat.reduceBEq, Nat.reduceEqDiff, ↓reduceIte, Nat.reduceAdd, Nat.reduceSub]))
     refine AW.block ?_
     obtain ⟨ps, hps⟩ : ∃ ps, ps = [p, (platesP (gmod (rawV (l.take 2000) k) 60)), (platesP (gmod (rawV (l.take 2000) (rawN (l.take 2000) k)) 60))] := ⟨_, rfl⟩; have hpl : ps.length = 3 := (by rw [hps]; rfl); refine AW.loopI (fun (q : Nat × Nat) => [(5, .ptr 0 1 0 0), (7, .ptr 1 2 0 0), (29, .ro (ls.map lav)), (30, .v (.int .i64 (3 : Nat))), (31, .v (.int .i64 (i : Nat))), (10, .ro (ys.map Cart.av)), (45, .ro (ps.map Plate.av)), (46, .v (.int .i64 (3 : Nat))), (47, .v (.int .i64 (q.1 : Nat)))]) (fun q => ⟨[(1, .own 25 [p.av]), (2, .own 63 [srcRow (l.take 2000) (rawN (l.take 2000) (rawN (l.take 2000) k))])], q.2⟩) (fun q => q.1 ≤ 3) (fun q => 3 - q.1) (0, _) (by simp) ⟨rfl, rfl, rfl, rfl, rfl, rfl, by rw [hps]; rfl, rfl, rfl, trivial⟩ rfl ?_; rintro ⟨j, e2⟩ ρ hj; simp only at hj; simp only [updL]; (try simp only [nA, Nat.reduceBEq, Nat.reduceEqDiff, ↓reduceIte, Nat.reduceAdd, Nat.reduceSub])
     (refine AW.seq_k ?_; intro K hK)
     refine AW.region ?_
     refine awP (op_lss rfl rfl rfl) ?_
     refine AWL.nil ?_
     (refine hK _ ?_; clear hK K; (try simp only [nA, Nat.reduceBEq, Nat.reduceEqDiff, ↓reduceIte, Nat.reduceAdd, Nat.reduceSub]))
     (refine AW.seq_k ?_; intro K hK)
     refine AW.cond rfl rfl rfl (fun hc => ?_) (fun hc => ?_)
     ·
      (try simp only [hcS] at hc); have hc4 := hc; have hjl : j < ps.length := (by rw [hpl]; omega); obtain ⟨r, hrj⟩ : ∃ r, ps[j]? = some r := ⟨ps[j], List.getElem?_eq_getElem hjl⟩
      refine AW.skip ?_
      (refine hK _ ?_; clear hK K; (try simp only [nA, Nat.reduceBEq, Nat.reduceEqDiff, ↓reduceIte, Nat.reduceAdd, Nat.reduceSub]))
      (refine AW.seq_k ?_; intro K hK)
      refine AW.block ?_
      (refine AW.seq_k ?_; intro K hK)
      refine AW.region ?_
      (first | refine awP (op_ia_ro j rfl (.inl rfl) rfl Try.underlying35 rfl (get_of hrj) (by exact sz25) (Nat.le_of_ble_eq_true rfl)) ?_ | refine awP (op_ia_sl _ _ rfl rfl rfl rfl Try.underlying35 rfl (by omega) (by exact sz25) rfl) ?_)
      (first | refine awR (op_load_ptr rfl rfl rfl rfl ag25 sz25 (Nat.le_of_ble_eq_true rfl) rfl) ?_ | refine awR (op_load_rop rfl rfl ag25 sz25 (Nat.le_of_ble_eq_true rfl) (by decide) rfl) ?_)
      refine awJ (op_alloc rfl ze25 rfl) ?_; (try simp only [nA, Nat.reduceBEq, Nat.reduceEqDiff, ↓reduceIte, Nat.reduceAdd, Nat.reduceSub])
      refine awJ (op_store rfl rfl rfl rfl rfl rfl sz25 rfl (Nat.le_of_ble_eq_true rfl) rfl) ?_; (try simp only [nA, Nat.reduceBEq, Nat.reduceEqDiff, ↓reduceIte, Nat.reduceAdd, Nat.reduceSub])
      refine AWL.nil ?_
      (refine hK _ ?_; clear hK K; (try simp only [nA, Nat.reduceBEq, Nat.reduceEqDiff, ↓reduceIte, Nat.reduceAdd, Nat.reduceSub]))
      (refine AW.seq_k ?_; intro K hK)
      refine AW.region ?_
      refine awP (op_move rfl rfl) ?_
      (first | refine awR (op_load_ptr rfl rfl rfl rfl ag25 sz25 (Nat.le_of_ble_eq_true rfl) rfl) ?_ | refine awR (op_load_rop rfl rfl ag25 sz25 (Nat.le_of_ble_eq_true rfl) (by decide) rfl) ?_)
      refine awJ (op_call (b := false) rfl en17 (C17 (xs := ys) (p := r)) (RL.cons (by first | exact View.same rfl | exact View.nil | exact View.rof | exact View.src .ro | exact View.src .rof | exact View.src (.sl rfl rfl) | exact View.ptr rfl rfl rfl) (RL.cons (by first | exact View.same rfl | exact View.nil | exact View.rof | exact View.src .ro | exact View.src .rof | exact View.src (.sl rfl rfl) | exact View.ptr rfl rfl rfl) (RL.nil))) rfl (fun h => by cases h) rfl rfl) ?_; (try simp only [nA, Nat.reduceBEq, Nat.reduceEqDiff, ↓reduceIte, Nat.reduceAdd, Nat.reduceSub])
      refine awP (op_move rfl rfl) ?_
      refine awP (op_extract rfl rfl rfl) ?_
      refine awP (op_extract rfl rfl rfl) ?_
      refine awP (op_assign rfl rfl) ?_
      refine awP (op_assign rfl rfl) ?_
      refine AWL.nil ?_
      (refine hK _ ?_; clear hK K; (try simp only [nA, Nat.reduceBEq, Nat.reduceEqDiff, ↓reduceIte, Nat.reduceAdd, Nat.reduceSub]))
      (refine AW.seq_k ?_; intro K hK)
      refine AW.region ?_
      refine awP (op_move rfl rfl) ?_
      (first | refine awR (op_load_ptr rfl rfl rfl rfl ag25 sz25 (Nat.le_of_ble_eq_true rfl) rfl) ?_ | refine awR (op_load_rop rfl rfl ag25 sz25 (Nat.le_of_ble_eq_true rfl) (by decide) rfl) ?_)
      refine awJ (op_call (b := false) rfl en18 (C18 (xs := ys) (p := r) hF.1 hF.2) (RL.cons (by first | exact View.same rfl | exact View.nil | exact View.rof | exact View.src .ro | exact View.src .rof | exact View.src (.sl rfl rfl) | exact View.ptr rfl rfl rfl) (RL.cons (by first | exact View.same rfl | exact View.nil | exact View.rof | exact View.src .ro | exact View.src .rof | exact View.src (.sl rfl rfl) | exact View.ptr rfl rfl rfl) (RL.nil))) rfl (fun h => by cases h) rfl rfl) ?_; (try simp only [nA, Nat.reduceBEq, Nat.reduceEqDiff, ↓reduceIte, Nat.reduceAdd, Nat.reduceSub])
      refine awP (op_move rfl rfl) ?_
      refine awP (op_extract rfl rfl rfl) ?_
      refine awP (op_extract rfl rfl rfl) ?_
      refine awP (op_assign rfl rfl) ?_
      refine awP (op_assign rfl rfl) ?_
      refine AWL.nil ?_
      (refine hK _ ?_; clear hK K; (try simp only [nA, Nat.reduceBEq, Nat.reduceEqDiff, ↓reduceIte, Nat.reduceAdd, Nat.reduceSub]))
      (refine AW.seq_k ?_; intro K hK)
      refine AW.region (AWL.quiet ?_)
      refine aqP (op_move rfl rfl) ?_
      refine aqP (op_move rfl rfl) ?_
      (first | refine aqP (op_neq rfl rfl rfl) ?_ | refine aqP (op_sneq rfl rfl rfl) ?_)
      refine aqP (op_move rfl rfl) ?_
      refine' aqOr' [_, _, _] [67,68,69] rfl rfl rfl rfl rfl rfl rfl rfl rfl rfl rfl rfl (fun hb => ?_) ?_; rotate_left
      ·
       (try simp only [hcS] at hb)
       refine aqP (op_move rfl rfl) ?_
       refine aqP (op_move rfl rfl) ?_
       (first | refine aqP (op_neq rfl rfl rfl) ?_ | refine aqP (op_sneq rfl rfl rfl) ?_ | refine aqP (op_bneq rfl rfl rfl Try.underlying4) ?_)
       (refine aqSeg rfl rfl rfl ?_; repeat (first | exact fun _ _ => rfl | refine upd_out rfl ?_ | refine era_out rfl ?_))
      (try simp only [nA, Nat.reduceBEq, Nat.reduceEqDiff, ↓reduceIte, Nat.reduceAdd, Nat.reduceSub])
      refine AQ.nil ?_
      (refine hK _ ?_; clear hK K; (try simp only [nA, Nat.reduceBEq, Nat.reduceEqDiff, ↓reduceIte, Nat.reduceAdd, Nat.reduceSub]))
      refine AW.cond rfl rfl rfl (fun hc => ?_) (fun hc => ?_)
      ·
       (try simp only [hcS] at hc); have hc5 := hc; skip
       (refine AW.seq_k ?_; intro K hK)
       refine AW.region ?_
       refine awP (op_assign rfl rfl) ?_
       refine AWL.nil ?_
       (refine hK _ ?_; clear hK K; (try simp only [nA, Nat.reduceBEq, Nat.reduceEqDiff, ↓reduceIte, Nat.reduceAdd, Nat.reduceSub]))
       skip
       refine AW.ret ?_; (try simp only [thenE, inBlk, Nat.reduceEqDiff, ↓reduceIte]); exfalso; simp at hc
      ·
       (try simp only [hcS] at hc); have hc5 := hc; skip
       refine AW.skip ?_
       (try simp only [thenE, inBlk, Nat.reduceEqDiff, ↓reduceIte])
       (refine hK _ ?_; clear hK K; (try simp only [nA, Nat.reduceBEq, Nat.reduceEqDiff, ↓reduceIte, Nat.reduceAdd, Nat.reduceSub]))
       refine AW.region ?_
       (first | refine awP (op_addi rfl rfl rfl (by omega)) ?_ | refine awP (op_add rfl rfl rfl rfl) ?_)
       refine awP (op_move rfl rfl) ?_
       refine AWL.gh (Gh.drop 2) ?_; (try simp only [nA, Nat.reduceBEq, Nat.reduceEqDiff, ↓reduceIte, Nat.reduceAdd, Nat.reduceSub])
       refine AWL.nil ?_
       refine ⟨(j + 1, _), by dsimp only; omega, by dsimp only; omega, ⟨rfl, rfl, rfl, rfl, rfl, rfl, rfl, rfl, rfl, trivial⟩, (by first | rfl | trivial), (by first | rfl | trivial)⟩
     ·
      (try simp only [hcS] at hc); have hc4 := hc; skip
      refine AW.exit ?_; (try simp only [thenE, inBlk, Nat.reduceEqDiff, ↓reduceIte])
      clear hK K
      (try simp only [thenE, inBlk, Nat.reduceEqDiff, ↓reduceIte])
      (refine hK _ ?_; clear hK K; (try simp only [nA, Nat.reduceBEq, Nat.reduceEqDiff, ↓reduceIte, Nat.reduceAdd, Nat.reduceSub]))
      refine AW.region ?_
      (first | refine awP (op_addi rfl rfl rfl (by omega)) ?_ | refine awP (op_add rfl rfl rfl rfl) ?_)
      refine awP (op_move rfl rfl) ?_
      skip
      refine AWL.nil ?_
      refine ⟨(i + 1, _, _), by dsimp only; omega, by dsimp only; omega, ⟨rfl, rfl, rfl, rfl, rfl, trivial⟩, rfl, (by first | rfl | trivial)⟩
   ·
    (try simp only [hcS] at hc); have hc2 := hc; skip
    refine AW.exit ?_; (try simp only [thenE, inBlk, Nat.reduceEqDiff, ↓reduceIte])
    clear hK K
    (refine hK _ ?_; clear hK K; (try simp only [nA, Nat.reduceBEq, Nat.reduceEqDiff, ↓reduceIte, Nat.reduceAdd, Nat.reduceSub]))
    (refine AW.seq_k ?_; intro K hK)
    refine AW.region ?_
    refine awJ (OpQ.j (op_callQ (b := true) rfl en19 (C19) (RL.nil) rfl)) ?_; (try simp only [nA, Nat.reduceBEq, Nat.reduceEqDiff, ↓reduceIte, Nat.reduceAdd, Nat.reduceSub])
    refine awP (op_assign rfl rfl) ?_
    refine AWL.nil ?_
    (refine hK _ ?_; clear hK K; (try simp only [nA, Nat.reduceBEq, Nat.reduceEqDiff, ↓reduceIte, Nat.reduceAdd, Nat.reduceSub]))
    skip
    refine AW.ret ?_; (try simp only [thenE, inBlk, Nat.reduceEqDiff, ↓reduceIte]); exact RQ.of0 rfl (.tmp (Nat.le_of_ble_eq_true rfl) rfl rfl .nil)
end Go.Proofs.Ytbbedhidiffdgaa
