import Derived.Test.YtbbedhidiffdgaaCp
namespace Go.Proofs.Ytbbedhidiffdgaa
open Go.RowKit
set_option linter.unusedSimpArgs false
set_option linter.unusedVariables false

/-! ### Spoilt carts -/
abbrev pick5 : List Int := [0, 1, 2, 1048576, 1048577]
def spF (l : List Int) (sel : Int) (k : Nat) (c : Cart) : Cart × Nat :=
  if sel = 0 then ({ c with number := pickV l k pick5 }, rawN l k) else if sel = 1 then ({ c with chute := rawV l k }, rawN l k) else if sel = 2 then ({ c with category := rawV l k }, rawN l k)
  else if sel = 3 then (addP c (platesP (gmod (rawV l k) 60)), rawN l k) else if sel = 4 then ({ c with away := !c.away }, k) else if sel = 5 then ({ c with flight := { c.flight with number := 0 } }, k)
  else (addP c zeroP, k)
def spoilV (l : List Int) (k : Nat) (xs : List Cart) : List Cart × Nat :=
  if xs.length = 0 then ([zeroK], k) else
    (xs.set (idxV l k xs.length) (spF l (gmod (rawV l (rawN l k)) 7) (nx2 l k) (xs.getD (idxV l k xs.length) default)).1, (spF l (gmod (rawV l (rawN l k)) 7) (nx2 l k) (xs.getD (idxV l k xs.length) default)).2)
theorem spF_len (l : List Int) (sel : Int) (k : Nat) (c : Cart) : (spF l sel k c).1.plates.length ≤ c.plates.length + 1 := by
  unfold spF
  repeat' split
  all_goals first | (exact Nat.le_succ _) | (show (c.plates ++ [_]).length ≤ _; simp)
theorem spoil_bd (l : List Int) (k : Nat) {xs : List Cart} (h : xs.length ≤ 500 ∧ ∀ c ∈ xs, c.plates.length ≤ 500) : (spoilV l k xs).1.length ≤ 1000 ∧ ∀ c ∈ (spoilV l k xs).1, c.plates.length ≤ 1000 := by
  unfold spoilV
  split
  · exact ⟨by simp, fun c hc => by rw [List.mem_singleton.1 hc]; simp⟩
  · rename_i h0
    refine ⟨by simp; omega, fun c hc => ?_⟩
    rcases List.mem_or_eq_of_mem_set hc with hc | rfl
    · have := h.2 c hc; omega
    · have h1 := spF_len l (gmod (rawV l (rawN l k)) 7) (nx2 l k) (xs.getD (idxV l k xs.length) default)
      have h2 := h.2 _ (getD_mem (xs := xs) (idxV_lt l k (n := xs.length) (by omega)))
      omega
theorem zero_le : ∀ (i : Nat) (u x : AV), [zrow48].flatten[i]? = some u → [zeroK.av].flatten[i]? = some x → Le1 u x := fun i u x hu hx => by
  rcases i with _ | _ | _ | _ | _ | _ | _ | _ | _ | i <;> simp at hu hx <;> subst hu <;> subst hx <;> first | exact .same | exact .nil
set_option maxHeartbeats 8000000 in
theorem C13 {l : List Int} {k : Nat} {xs : List Cart} (hl : l.length ≤ 2000) (hx : xs.length ≤ 500) (hb : ∀ c ∈ xs, c.plates.length ≤ 500) : Fn Try.prog 13 [.own 63 [srcRow l k]] [.ptr 0 0 0 0, .ro (xs.map Cart.av)] [.ro ((spoilV l k xs).1.map Cart.av)] [.own 63 [srcRow l (spoilV l k xs).2]] := by
  refine Spec.body Try.func13 rfl Try.ntmps13 (by simp) rfl ?_; intro S0 own0 v0 w0
  (refine AW.seq_k ?_; intro K hK)
  refine AW.region ?_
  refine awP (op_assign rfl rfl) ?_; (try simp only [nA, Nat.reduceBEq, Nat.reduceEqDiff, ↓reduceIte, Nat.reduceAdd, Nat.reduceSub])
  refine AWL.nil ?_
  (refine hK _ ?_; clear hK K; (try simp only [nA, Nat.reduceBEq, Nat.reduceEqDiff, ↓reduceIte, Nat.reduceAdd, Nat.reduceSub]))
  (refine AW.seq_k ?_; intro K hK)
  refine AW.region ?_
  refine awP (op_move rfl rfl) ?_; (try simp only [nA, Nat.reduceBEq, Nat.reduceEqDiff, ↓reduceIte, Nat.reduceAdd, Nat.reduceSub])
  refine awJ (op_call (b := false) rfl en36 (C36 (xs := xs) (by omega) (fun c hc => Nat.le_trans (hb c hc) (by omega))) (RL.cons (by first | exact View.same rfl | exact View.nil | exact View.rof | exact View.src .ro | exact View.src .rof | exact View.src (.sl rfl rfl) | exact View.ptr rfl rfl rfl) (RL.nil)) rfl (fun h => by cases h) rfl rfl) ?_; (try simp only [nA, Nat.reduceBEq, Nat.reduceEqDiff, ↓reduceIte, Nat.reduceAdd, Nat.reduceSub])
  refine awP (op_assign rfl rfl) ?_; (try simp only [nA, Nat.reduceBEq, Nat.reduceEqDiff, ↓reduceIte, Nat.reduceAdd, Nat.reduceSub])
  refine AWL.nil ?_
  (refine hK _ ?_; clear hK K; (try simp only [nA, Nat.reduceBEq, Nat.reduceEqDiff, ↓reduceIte, Nat.reduceAdd, Nat.reduceSub]))
  (refine AW.seq_k ?_; intro K hK)
  (refine AW.seq_k ?_; intro K hK)
  refine AW.region ?_
  refine awP (op_move rfl rfl) ?_; (try simp only [nA, Nat.reduceBEq, Nat.reduceEqDiff, ↓reduceIte, Nat.reduceAdd, Nat.reduceSub])
  (first | refine awP (op_len_ro rfl rfl Try.underlying22 (by first | exact .inr (.inl ⟨_, rfl, rfl⟩) | exact .inl rfl | exact .inr (.inr (.inl ⟨_, rfl, rfl⟩)) | exact .inr (.inr (.inr ⟨rfl, rfl⟩)))) ?_ | refine awP (op_len_sl rfl rfl rfl Try.underlying22) ?_ | refine awP (op_len_str rfl rfl Try.underlying22) ?_); (try simp only [nA, Nat.reduceBEq, Nat.reduceEqDiff, ↓reduceIte, Nat.reduceAdd, Nat.reduceSub])
  (first | refine awP (op_eql rfl rfl rfl) ?_ | refine awP (op_seql rfl rfl rfl) ?_); (try simp only [nA, Nat.reduceBEq, Nat.reduceEqDiff, ↓reduceIte, Nat.reduceAdd, Nat.reduceSub])
  refine AWL.nil ?_
  (refine hK _ ?_; clear hK K; (try simp only [nA, Nat.reduceBEq, Nat.reduceEqDiff, ↓reduceIte, Nat.reduceAdd, Nat.reduceSub]))
  refine AW.cond rfl rfl rfl (fun hc => ?_) (fun hc => ?_)
  ·
   (try simp only [hcS] at hc); have hc1 := hc; obtain rfl : xs = [] := List.eq_nil_of_length_eq_zero (by omega)
   (refine AW.seq_k ?_; intro K hK)
   refine AW.region ?_
   refine awP (op_move rfl rfl) ?_; (try simp only [nA, Nat.reduceBEq, Nat.reduceEqDiff, ↓reduceIte, Nat.reduceAdd, Nat.reduceSub])
   refine awP (op_build2 (xs := [.v (.int .i64 0), .v (.int .i64 0), .v (.string ⟨#[]⟩), .v (.int .i64 0), .v (.string ⟨#[]⟩), .v (.int .i64 0), .v (.int .i64 0), .v (.slice none 0 0), .v (.bool false)]) rfl pl48 ze48 [] rfl rfl rfl) ?_; (try simp only [nA, Nat.reduceBEq, Nat.reduceEqDiff, ↓reduceIte, Nat.reduceAdd, Nat.reduceSub])
   refine awJ (OpJ.frz (op_buildSlice rfl [(0, zrow48)] [zrow48] Try.underlying22 ze48 rfl (by simp) rfl (by simp) rfl (Nat.le_of_ble_eq_true rfl) (by simp [maxLen])) (zrow_flat []) rfl) ?_; (try simp only [nA, Nat.reduceBEq, Nat.reduceEqDiff, ↓reduceIte, Nat.reduceAdd, Nat.reduceSub]); skip; (try simp only [nA, Nat.reduceBEq, Nat.reduceEqDiff, ↓reduceIte, Nat.reduceAdd, Nat.reduceSub])
   refine awJ (op_app (rows := [zrow48]) rfl rfl rfl rfl (by simp) .ro Try.underlying22 ze48 (by decide) (by simp) (by simp) (by decide) (es' := [zrow48]) rfl (n := 1) (by simp)) ?_; (try simp only [nA, Nat.reduceBEq, Nat.reduceEqDiff, ↓reduceIte, Nat.reduceAdd, Nat.reduceSub])
   refine awP (op_assign rfl rfl) ?_; (try simp only [nA, Nat.reduceBEq, Nat.reduceEqDiff, ↓reduceIte, Nat.reduceAdd, Nat.reduceSub])
   refine AWL.nil ?_
   (refine hK _ ?_; clear hK K; (try simp only [nA, Nat.reduceBEq, Nat.reduceEqDiff, ↓reduceIte, Nat.reduceAdd, Nat.reduceSub]))
   refine AW.gh (Gh.slot (r := 1) (es' := [zeroK.av]) rfl rfl ⟨rfl, zero_le⟩) ?_; (try simp only [nA, Nat.reduceBEq, Nat.reduceEqDiff, ↓reduceIte, Nat.reduceAdd, Nat.reduceSub]); refine AW.gh (Gh.freeze 4 (Nat.le_of_ble_eq_true rfl) rfl rfl (cav_flat [zeroK]) (es' := [zeroK].map Cart.av) rfl) ?_; (try simp only [nA, Nat.reduceBEq, Nat.reduceEqDiff, ↓reduceIte, Nat.reduceAdd, Nat.reduceSub])
   refine AW.ret ?_; (try simp only [thenE, inBlk, Nat.reduceEqDiff, ↓reduceIte]); rw [show spoilV l k [] = ([zeroK], k) by rfl]; exact RQ.of (.inl rfl) rfl (.tmp (Nat.le_of_ble_eq_true rfl) rfl rfl .nil) (by simp) rfl (one_out rfl)
  ·
   (try simp only [hcS] at hc); have hc1 := hc; have h0 : ¬ xs.length = 0 := (by omega); have hlt := idxV_lt l k (n := xs.length) (by omega); obtain ⟨c, hci⟩ : ∃ c, xs[idxV l k xs.length]? = some c := ⟨xs[idxV l k xs.length], List.getElem?_eq_getElem hlt⟩; have hcl := hb c (List.mem_of_getElem? hci); have hdc := get_d hci
   refine AW.skip ?_
   (refine hK _ ?_; clear hK K; (try simp only [nA, Nat.reduceBEq, Nat.reduceEqDiff, ↓reduceIte, Nat.reduceAdd, Nat.reduceSub]))
   (refine AW.seq_k ?_; intro K hK)
   refine AW.region ?_
   refine awP (op_move rfl rfl) ?_; (try simp only [nA, Nat.reduceBEq, Nat.reduceEqDiff, ↓reduceIte, Nat.reduceAdd, Nat.reduceSub])
   refine awP (op_move rfl rfl) ?_; (try simp only [nA, Nat.reduceBEq, Nat.reduceEqDiff, ↓reduceIte, Nat.reduceAdd, Nat.reduceSub])
   (first | refine awP (op_len_ro rfl rfl Try.underlying22 (by first | exact .inr (.inl ⟨_, rfl, rfl⟩) | exact .inl rfl | exact .inr (.inr (.inl ⟨_, rfl, rfl⟩)) | exact .inr (.inr (.inr ⟨rfl, rfl⟩)))) ?_ | refine awP (op_len_sl rfl rfl rfl Try.underlying22) ?_ | refine awP (op_len_str rfl rfl Try.underlying22) ?_); (try simp only [nA, Nat.reduceBEq, Nat.reduceEqDiff, ↓reduceIte, Nat.reduceAdd, Nat.reduceSub])
   refine awJ (op_call1 rfl en21 (C21n (n := xs.length) hl (by omega) (by omega)) (by exact rfl) (RL.cons .ptr (RL.cons (.base (by first | exact View.same rfl | exact View.nil | exact View.rof | exact View.src .ro | exact View.src .rof | exact View.src (.sl rfl rfl) | exact View.ptr rfl rfl rfl)) (RL.nil))) (by exact ⟨_, _, _, rfl, rfl, rfl⟩) (by exact rfl) (by exact rfl) (by exact rfl)) ?_; (try simp only [nA, Nat.reduceBEq, Nat.reduceEqDiff, ↓reduceIte, Nat.reduceAdd, Nat.reduceSub])
   refine awP (op_assign rfl rfl) ?_; (try simp only [nA, Nat.reduceBEq, Nat.reduceEqDiff, ↓reduceIte, Nat.reduceAdd, Nat.reduceSub])
   refine AWL.nil ?_
   (refine hK _ ?_; clear hK K; (try simp only [nA, Nat.reduceBEq, Nat.reduceEqDiff, ↓reduceIte, Nat.reduceAdd, Nat.reduceSub]))
   (refine AW.seq_k ?_; intro K hK)
   (refine AW.seq_k ?_; intro K hK)
   refine AW.region ?_
   refine awP (op_move rfl rfl) ?_; (try simp only [nA, Nat.reduceBEq, Nat.reduceEqDiff, ↓reduceIte, Nat.reduceAdd, Nat.reduceSub])
   refine awJ (op_call1 rfl en21 (C21 hl (n := 7) (by decide)) (by exact rfl) (RL.cons .ptr (RL.cons (.base (by first | exact View.same rfl | exact View.nil | exact View.rof | exact View.src .ro | exact View.src .rof | exact View.src (.sl rfl rfl) | exact View.ptr rfl rfl rfl)) (RL.nil))) (by exact ⟨_, _, _, rfl, rfl, rfl⟩) (by exact rfl) (by exact rfl) (by exact rfl)) ?_; (try simp only [nA, Nat.reduceBEq, Nat.reduceEqDiff, ↓reduceIte, Nat.reduceAdd, Nat.reduceSub])
   refine AWL.nil ?_
   (refine hK _ ?_; clear hK K; (try simp only [nA, Nat.reduceBEq, Nat.reduceEqDiff, ↓reduceIte, Nat.reduceAdd, Nat.reduceSub]))
   generalize hs : gmod (rawV l (rawN l k)) 7 = sel at *; generalize hk2 : rawN l (rawN l k) = k2 at *; generalize hi : idxV l k xs.length = i at *; have eS : spoilV l k xs = (xs.set i (spF l sel k2 c).1, (spF l sel k2 c).2) := (by unfold spoilV; rw [if_neg h0, hi, hs, show nx2 l k = k2 from hk2, hdc]); refine AW.block ?_
   (refine AW.seq_k ?_; intro K hK)
   refine AW.region ?_
   (first | refine awP (op_eql rfl rfl rfl) ?_ | refine awP (op_seql rfl rfl rfl) ?_); (try simp only [nA, Nat.reduceBEq, Nat.reduceEqDiff, ↓reduceIte, Nat.reduceAdd, Nat.reduceSub])
   refine awP (op_assign rfl rfl) ?_; (try simp only [nA, Nat.reduceBEq, Nat.reduceEqDiff, ↓reduceIte, Nat.reduceAdd, Nat.reduceSub])
   refine AWL.nil ?_
   (refine hK _ ?_; clear hK K; (try simp only [nA, Nat.reduceBEq, Nat.reduceEqDiff, ↓reduceIte, Nat.reduceAdd, Nat.reduceSub]))
   refine AW.cond rfl rfl rfl (fun hc => ?_) (fun hc => ?_)
   ·
    (try simp only [hcS] at hc); have hc2 := hc; have hcb := hc2
    refine AW.region ?_
    refine awP (op_move rfl rfl) ?_; (try simp only [nA, Nat.reduceBEq, Nat.reduceEqDiff, ↓reduceIte, Nat.reduceAdd, Nat.reduceSub])
    refine awP (op_move rfl rfl) ?_; (try simp only [nA, Nat.reduceBEq, Nat.reduceEqDiff, ↓reduceIte, Nat.reduceAdd, Nat.reduceSub])
    refine awP (op_move rfl rfl) ?_; (try simp only [nA, Nat.reduceBEq, Nat.reduceEqDiff, ↓reduceIte, Nat.reduceAdd, Nat.reduceSub])
    refine awJ (op_buildSlice rfl [(0, iv 0), (1, iv 1), (2, iv 2), (3, iv 1048576), (4, iv 1048577)] (([0, 1, 2, 1048576, 1048577] : List Int).map iv) Try.underlying23 ze3 rfl (by simp) (fold_dense 1 (([0, 1, 2, 1048576, 1048577] : List Int).map iv) (iv_len _)) (iv_len _) rfl (Nat.le_of_ble_eq_true rfl) (by simp [maxLen])) ?_; (try simp only [nA, Nat.reduceBEq, Nat.reduceEqDiff, ↓reduceIte, Nat.reduceAdd, Nat.reduceSub]); refine AWL.gh (Gh.freeze 39 (Nat.le_of_ble_eq_true rfl) rfl rfl (iv_flat pick5) (es' := pick5.map iv) rfl) ?_; (try simp only [nA, Nat.reduceBEq, Nat.reduceEqDiff, ↓reduceIte, Nat.reduceAdd, Nat.reduceSub]); (try simp only [nA, Nat.reduceBEq, Nat.reduceEqDiff, ↓reduceIte, Nat.reduceAdd, Nat.reduceSub])
    refine awJ (op_call1 rfl en37 (C37 (xs := pick5) hl (by decide) (by decide)) (by exact rfl) (RL.cons .ptr (RL.cons (.base (by first | exact View.same rfl | exact View.nil | exact View.rof | exact View.src .ro | exact View.src .rof | exact View.src (.sl rfl rfl) | exact View.ptr rfl rfl rfl)) (RL.nil))) (by exact ⟨_, _, _, rfl, rfl, rfl⟩) (by exact rfl) (by exact rfl) (by exact rfl)) ?_; (try simp only [nA, Nat.reduceBEq, Nat.reduceEqDiff, ↓reduceIte, Nat.reduceAdd, Nat.reduceSub])
    refine awP (op_ia_sl i 9 rfl rfl rfl rfl Try.underlying22 rfl hlt (by exact sz48) (Nat.zero_add _)) ?_; (try simp only [nA, Nat.reduceBEq, Nat.reduceEqDiff, ↓reduceIte, Nat.reduceAdd, Nat.reduceSub])
    (first | refine awP (op_fa_ptr rfl rfl rfl fl48_0 (by exact sz3) (by decide) rfl) ?_ | refine awP (op_fa_rop rfl rfl fl48_0 (by exact sz3) (by decide) (Nat.le_of_ble_eq_true rfl) rfl) ?_); (try simp only [nA, Nat.reduceBEq, Nat.reduceEqDiff, ↓reduceIte, Nat.reduceAdd, Nat.reduceSub])
    refine awJ (op_store rfl rfl rfl rfl (get_of (f := oav) hci) rfl sz3 rfl (Nat.le_of_ble_eq_true rfl) (set_oav (c' := { c with number := pickV l k2 pick5 }) rfl)) ?_; (try simp only [nA, Nat.reduceBEq, Nat.reduceEqDiff, ↓reduceIte, Nat.reduceAdd, Nat.reduceSub])
    refine AWL.nil ?_
    (try simp only [thenE, inBlk, Nat.reduceEqDiff, ↓reduceIte])
    (refine hK _ ?_; clear hK K; (try simp only [nA, Nat.reduceBEq, Nat.reduceEqDiff, ↓reduceIte, Nat.reduceAdd, Nat.reduceSub]))
    (refine AW.seq_k ?_; intro K hK)
    refine AW.region ?_
    refine awP (op_move rfl rfl) ?_; (try simp only [nA, Nat.reduceBEq, Nat.reduceEqDiff, ↓reduceIte, Nat.reduceAdd, Nat.reduceSub])
    refine awP (op_assign rfl rfl) ?_; (try simp only [nA, Nat.reduceBEq, Nat.reduceEqDiff, ↓reduceIte, Nat.reduceAdd, Nat.reduceSub])
    refine AWL.nil ?_
    (refine hK _ ?_; clear hK K; (try simp only [nA, Nat.reduceBEq, Nat.reduceEqDiff, ↓reduceIte, Nat.reduceAdd, Nat.reduceSub]))
    refine AW.gh (Gh.freezeN 4 (Nat.le_of_ble_eq_true rfl) rfl rfl (oav_flat2 (xs.set i { c with number := pickV l k2 pick5 })) (es' := (xs.set i { c with number := pickV l k2 pick5 }).map Cart.av) (by rw [List.take_of_length_le (by simp)]; exact oav_fz _)) ?_; (try simp only [nA, Nat.reduceBEq, Nat.reduceEqDiff, ↓reduceIte, Nat.reduceAdd, Nat.reduceSub])
    refine AW.ret ?_; (try simp only [thenE, inBlk, Nat.reduceEqDiff, ↓reduceIte]); rw [eS]; unfold spF; rw [if_pos hc2]; exact RQ.of (.inl rfl) rfl (.tmp (Nat.le_of_ble_eq_true rfl) rfl rfl .nil) (by simp) rfl (one_out rfl)
   ·
    (try simp only [hcS] at hc); have hc2 := hc; skip
    (refine AW.seq_k ?_; intro K hK)
    refine AW.region ?_
    (first | refine awP (op_eql rfl rfl rfl) ?_ | refine awP (op_seql rfl rfl rfl) ?_); (try simp only [nA, Nat.reduceBEq, Nat.reduceEqDiff, ↓reduceIte, Nat.reduceAdd, Nat.reduceSub])
    refine awP (op_assign rfl rfl) ?_; (try simp only [nA, Nat.reduceBEq, Nat.reduceEqDiff, ↓reduceIte, Nat.reduceAdd, Nat.reduceSub])
    refine AWL.nil ?_
    (refine hK _ ?_; clear hK K; (try simp only [nA, Nat.reduceBEq, Nat.reduceEqDiff, ↓reduceIte, Nat.reduceAdd, Nat.reduceSub]))
    refine AW.cond rfl rfl rfl (fun hc => ?_) (fun hc => ?_)
    ·
     (try simp only [hcS] at hc); have hc3 := hc; skip
     refine AW.region ?_
     refine awP (op_move rfl rfl) ?_; (try simp only [nA, Nat.reduceBEq, Nat.reduceEqDiff, ↓reduceIte, Nat.reduceAdd, Nat.reduceSub])
     refine awP (op_move rfl rfl) ?_; (try simp only [nA, Nat.reduceBEq, Nat.reduceEqDiff, ↓reduceIte, Nat.reduceAdd, Nat.reduceSub])
     refine awP (op_move rfl rfl) ?_; (try simp only [nA, Nat.reduceBEq, Nat.reduceEqDiff, ↓reduceIte, Nat.reduceAdd, Nat.reduceSub])
     refine awJ (op_call1 rfl en38 (C38 hl) (by exact rfl) (RL.cons .ptr (RL.nil)) (by exact ⟨_, _, _, rfl, rfl, rfl⟩) (by exact rfl) (by exact rfl) (by exact rfl)) ?_; (try simp only [nA, Nat.reduceBEq, Nat.reduceEqDiff, ↓reduceIte, Nat.reduceAdd, Nat.reduceSub])
     refine awP (op_ia_sl i 9 rfl rfl rfl rfl Try.underlying22 rfl hlt (by exact sz48) (Nat.zero_add _)) ?_; (try simp only [nA, Nat.reduceBEq, Nat.reduceEqDiff, ↓reduceIte, Nat.reduceAdd, Nat.reduceSub])
     (first | refine awP (op_fa_ptr rfl rfl rfl fl48_1 (by exact sz3) (by decide) rfl) ?_ | refine awP (op_fa_rop rfl rfl fl48_1 (by exact sz3) (by decide) (Nat.le_of_ble_eq_true rfl) rfl) ?_); (try simp only [nA, Nat.reduceBEq, Nat.reduceEqDiff, ↓reduceIte, Nat.reduceAdd, Nat.reduceSub])
     refine awJ (op_store rfl rfl rfl rfl (get_of (f := oav) hci) rfl sz3 rfl (Nat.le_of_ble_eq_true rfl) (set_oav (c' := { c with chute := rawV l k2 }) rfl)) ?_; (try simp only [nA, Nat.reduceBEq, Nat.reduceEqDiff, ↓reduceIte, Nat.reduceAdd, Nat.reduceSub])
     refine AWL.nil ?_
     (try simp only [thenE, inBlk, Nat.reduceEqDiff, ↓reduceIte])
     (refine hK _ ?_; clear hK K; (try simp only [nA, Nat.reduceBEq, Nat.reduceEqDiff, ↓reduceIte, Nat.reduceAdd, Nat.reduceSub]))
     (refine AW.seq_k ?_; intro K hK)
     refine AW.region ?_
     refine awP (op_move rfl rfl) ?_; (try simp only [nA, Nat.reduceBEq, Nat.reduceEqDiff, ↓reduceIte, Nat.reduceAdd, Nat.reduceSub])
     refine awP (op_assign rfl rfl) ?_; (try simp only [nA, Nat.reduceBEq, Nat.reduceEqDiff, ↓reduceIte, Nat.reduceAdd, Nat.reduceSub])
     refine AWL.nil ?_
     (refine hK _ ?_; clear hK K; (try simp only [nA, Nat.reduceBEq, Nat.reduceEqDiff, ↓reduceIte, Nat.reduceAdd, Nat.reduceSub]))
     refine AW.gh (Gh.freezeN 4 (Nat.le_of_ble_eq_true rfl) rfl rfl (oav_flat2 (xs.set i { c with chute := rawV l k2 })) (es' := (xs.set i { c with chute := rawV l k2 }).map Cart.av) (by rw [List.take_of_length_le (by simp)]; exact oav_fz _)) ?_; (try simp only [nA, Nat.reduceBEq, Nat.reduceEqDiff, ↓reduceIte, Nat.reduceAdd, Nat.reduceSub])
     refine AW.ret ?_; (try simp only [thenE, inBlk, Nat.reduceEqDiff, ↓reduceIte]); rw [eS]; unfold spF; rw [if_neg hc2, if_pos hc3]; exact RQ.of (.inl rfl) rfl (.tmp (Nat.le_of_ble_eq_true rfl) rfl rfl .nil) (by simp) rfl (one_out rfl)
    ·
     (try simp only [hcS] at hc); have hc3 := hc; skip
     (refine AW.seq_k ?_; intro K hK)
     refine AW.region ?_
     (first | refine awP (op_eql rfl rfl rfl) ?_ | refine awP (op_seql rfl rfl rfl) ?_); (try simp only [nA, Nat.reduceBEq, Nat.reduceEqDiff, ↓reduceIte, Nat.reduceAdd, Nat.reduceSub])
     refine awP (op_assign rfl rfl) ?_; (try simp only [nA, Nat.reduceBEq, Nat.reduceEqDiff, ↓reduceIte, Nat.reduceAdd, Nat.reduceSub])
     refine AWL.nil ?_
     (refine hK _ ?_; clear hK K; (try simp only [nA, Nat.reduceBEq, Nat.reduceEqDiff, ↓reduceIte, Nat.reduceAdd, Nat.reduceSub]))
     refine AW.cond rfl rfl rfl (fun hc => ?_) (fun hc => ?_)
     ·
      (try simp only [hcS] at hc); have hc4 := hc; skip
      refine AW.region ?_
      refine awP (op_move rfl rfl) ?_; (try simp only [nA, Nat.reduceBEq, Nat.reduceEqDiff, ↓reduceIte, Nat.reduceAdd, Nat.reduceSub])
      refine awP (op_move rfl rfl) ?_; (try simp only [nA, Nat.reduceBEq, Nat.reduceEqDiff, ↓reduceIte, Nat.reduceAdd, Nat.reduceSub])
      refine awP (op_move rfl rfl) ?_; (try simp only [nA, Nat.reduceBEq, Nat.reduceEqDiff, ↓reduceIte, Nat.reduceAdd, Nat.reduceSub])
      refine awJ (op_call1 rfl en38 (C38 hl) (by exact rfl) (RL.cons .ptr (RL.nil)) (by exact ⟨_, _, _, rfl, rfl, rfl⟩) (by exact rfl) (by exact rfl) (by exact rfl)) ?_; (try simp only [nA, Nat.reduceBEq, Nat.reduceEqDiff, ↓reduceIte, Nat.reduceAdd, Nat.reduceSub])
      refine awP (op_ia_sl i 9 rfl rfl rfl rfl Try.underlying22 rfl hlt (by exact sz48) (Nat.zero_add _)) ?_; (try simp only [nA, Nat.reduceBEq, Nat.reduceEqDiff, ↓reduceIte, Nat.reduceAdd, Nat.reduceSub])
      (first | refine awP (op_fa_ptr rfl rfl rfl fl48_3 (by exact sz3) (by decide) rfl) ?_ | refine awP (op_fa_rop rfl rfl fl48_3 (by exact sz3) (by decide) (Nat.le_of_ble_eq_true rfl) rfl) ?_); (try simp only [nA, Nat.reduceBEq, Nat.reduceEqDiff, ↓reduceIte, Nat.reduceAdd, Nat.reduceSub])
      refine awJ (op_store rfl rfl rfl rfl (get_of (f := oav) hci) rfl sz3 rfl (Nat.le_of_ble_eq_true rfl) (set_oav (c' := { c with category := rawV l k2 }) rfl)) ?_; (try simp only [nA, Nat.reduceBEq, Nat.reduceEqDiff, ↓reduceIte, Nat.reduceAdd, Nat.reduceSub])
      refine AWL.nil ?_
      (try simp only [thenE, inBlk, Nat.reduceEqDiff, ↓reduceIte])
      (refine hK _ ?_; clear hK K; (try simp only [nA, Nat.reduceBEq, Nat.reduceEqDiff, ↓reduceIte, Nat.reduceAdd, Nat.reduceSub]))
      (refine AW.seq_k ?_; intro K hK)
      refine AW.region ?_
      refine awP (op_move rfl rfl) ?_; (try simp only [nA, Nat.reduceBEq, Nat.reduceEqDiff, ↓reduceIte, Nat.reduceAdd, Nat.reduceSub])
      refine awP (op_assign rfl rfl) ?_; (try simp only [nA, Nat.reduceBEq, Nat.reduceEqDiff, ↓reduceIte, Nat.reduceAdd, Nat.reduceSub])
      refine AWL.nil ?_
      (refine hK _ ?_; clear hK K; (try simp only [nA, Nat.reduceBEq, Nat.reduceEqDiff, ↓reduceIte, Nat.reduceAdd, Nat.reduceSub]))
      refine AW.gh (Gh.freezeN 4 (Nat.le_of_ble_eq_true rfl) rfl rfl (oav_flat2 (xs.set i { c with category := rawV l k2 })) (es' := (xs.set i { c with category := rawV l k2 }).map Cart.av) (by rw [List.take_of_length_le (by simp)]; exact oav_fz _)) ?_; (try simp only [nA, Nat.reduceBEq, Nat.reduceEqDiff, ↓reduceIte, Nat.reduceAdd, Nat.reduceSub])
      refine AW.ret ?_; (try simp only [thenE, inBlk, Nat.reduceEqDiff, ↓reduceIte]); rw [eS]; unfold spF; rw [if_neg hc2, if_neg hc3, if_pos hc4]; exact RQ.of (.inl rfl) rfl (.tmp (Nat.le_of_ble_eq_true rfl) rfl rfl .nil) (by simp) rfl (one_out rfl)
     ·
      (try simp only [hcS] at hc); have hc4 := hc; skip
      (refine AW.seq_k ?_; intro K hK)
      refine AW.region ?_
      (first | refine awP (op_eql rfl rfl rfl) ?_ | refine awP (op_seql rfl rfl rfl) ?_); (try simp only [nA, Nat.reduceBEq, Nat.reduceEqDiff, ↓reduceIte, Nat.reduceAdd, Nat.reduceSub])
      refine awP (op_assign rfl rfl) ?_; (try simp only [nA, Nat.reduceBEq, Nat.reduceEqDiff, ↓reduceIte, Nat.reduceAdd, Nat.reduceSub])
      refine AWL.nil ?_
      (refine hK _ ?_; clear hK K; (try simp only [nA, Nat.reduceBEq, Nat.reduceEqDiff, ↓reduceIte, Nat.reduceAdd, Nat.reduceSub]))
      refine AW.cond rfl rfl rfl (fun hc => ?_) (fun hc => ?_)
      ·
       (try simp only [hcS] at hc); have hc5 := hc; skip
       refine AW.ghE (GhE.unnest (r := 1) (row := oav c) i 7 rfl (get_of (f := oav) hci) rfl) ?_; intro u hu; (try simp only [nA, Nat.reduceBEq, Nat.reduceEqDiff, ↓reduceIte, Nat.reduceAdd, Nat.reduceSub])
       refine AW.aeo (fun T' => T'.slots[1]? = some (1, .own 48 ((xs.map oav).set i ((oav c).set 7 (.v u))))) mix rfl ?_
       refine aePo 0 rfl (fun T' ok => op_move rfl rfl) rfl (by kernel_rfl) (by kernel_rfl) ?_; (try simp only [nA, Nat.reduceBEq, Nat.reduceEqDiff, ↓reduceIte, Nat.reduceAdd, Nat.reduceSub])
       refine aePo 1 rfl (fun T' ok => op_move rfl rfl) rfl (by kernel_rfl) (by kernel_rfl) ?_; (try simp only [nA, Nat.reduceBEq, Nat.reduceEqDiff, ↓reduceIte, Nat.reduceAdd, Nat.reduceSub])
       refine aePo 2 rfl (fun T' ok => op_move rfl rfl) rfl (by kernel_rfl) (by kernel_rfl) ?_; (try simp only [nA, Nat.reduceBEq, Nat.reduceEqDiff, ↓reduceIte, Nat.reduceAdd, Nat.reduceSub])
       refine aePo 3 rfl (fun T' ok => op_move rfl rfl) rfl (by kernel_rfl) (by kernel_rfl) ?_; (try simp only [nA, Nat.reduceBEq, Nat.reduceEqDiff, ↓reduceIte, Nat.reduceAdd, Nat.reduceSub])
       refine aePo 4 rfl (fun T' ok => (op_ia_sl i 9 rfl rfl rfl ok Try.underlying22 rfl hlt (by exact sz48) (Nat.zero_add _))) rfl (by kernel_rfl) (by kernel_rfl) ?_; (try simp only [nA, Nat.reduceBEq, Nat.reduceEqDiff, ↓reduceIte, Nat.reduceAdd, Nat.reduceSub])
       refine aePo 5 rfl (fun T' ok => (op_fa_ptr rfl rfl ok fl48_4 (by exact sz35) (by decide) rfl)) rfl (by kernel_rfl) (by kernel_rfl) ?_; (try simp only [nA, Nat.reduceBEq, Nat.reduceEqDiff, ↓reduceIte, Nat.reduceAdd, Nat.reduceSub])
       refine aeRo 6 rfl (fun T' ok => op_load_ptr1 (row := ((oav c).set 7 (.v u))) rfl rfl ok (by simp [hlt]) ag35 rfl rfl) rfl (by kernel_rfl) (by kernel_rfl) ?_; (try simp only [nA, Nat.reduceBEq, Nat.reduceEqDiff, ↓reduceIte, Nat.reduceAdd, Nat.reduceSub])
       refine aePo 7 rfl (fun T' ok => op_move rfl rfl) rfl (by kernel_rfl) (by kernel_rfl) ?_; (try simp only [nA, Nat.reduceBEq, Nat.reduceEqDiff, ↓reduceIte, Nat.reduceAdd, Nat.reduceSub])
       refine aeJo 8 rfl (op_call1 rfl en16 (C16 hl (n := 60) (by decide)) (by exact rfl) (RL.cons .ptr (RL.cons (.base (by first | exact View.same rfl | exact View.nil | exact View.rof | exact View.src .ro | exact View.src .rof | exact View.src (.sl rfl rfl) | exact View.ptr rfl rfl rfl)) (RL.nil))) (by exact ⟨_, _, _, rfl, rfl, rfl⟩) (by exact rfl) (by exact rfl) (by exact rfl)) (by kernel_rfl) rfl ?_; (try simp only [nA, Nat.reduceBEq, Nat.reduceEqDiff, ↓reduceIte, Nat.reduceAdd, Nat.reduceSub])
       refine aeJo 9 rfl (OpJ.frz (op_buildSlice rfl [(0, (platesP (gmod (rawV l k2) 60)).av)] [(platesP (gmod (rawV l k2) 60)).av] Try.underlying35 ze25 rfl (by simp) rfl (by simp) rfl (Nat.le_of_ble_eq_true rfl) (by simp [maxLen])) (pav_flat [(platesP (gmod (rawV l k2) 60))]) rfl) (by kernel_rfl) rfl ?_; (try simp only [nA, Nat.reduceBEq, Nat.reduceEqDiff, ↓reduceIte, Nat.reduceAdd, Nat.reduceSub])
       refine aeJo 10 rfl (OpJ.nm (t := 67) (r := 2) rfl rfl (op_app (rows := [(platesP (gmod (rawV l k2) 60)).av]) rfl rfl rfl rfl (by simp) .ro Try.underlying35 ze25 (by decide) (by simp) (by simp; omega) (by decide) (es' := (c.plates ++ [(platesP (gmod (rawV l k2) 60))]).map Plate.av) (by simp) (n := (c.plates ++ [(platesP (gmod (rawV l k2) 60))]).length) (by simp))) (by kernel_rfl) rfl ?_; (try simp only [nA, Nat.reduceBEq, Nat.reduceEqDiff, ↓reduceIte, Nat.reduceAdd, Nat.reduceSub])
       refine aePo 11 rfl (fun T' ok => (op_ia_sl i 9 rfl rfl rfl ok Try.underlying22 rfl hlt (by exact sz48) (Nat.zero_add _))) rfl (by kernel_rfl) (by kernel_rfl) ?_; (try simp only [nA, Nat.reduceBEq, Nat.reduceEqDiff, ↓reduceIte, Nat.reduceAdd, Nat.reduceSub])
       refine aePo 12 rfl (fun T' ok => (op_fa_ptr rfl rfl ok fl48_4 (by exact sz35) (by decide) rfl)) rfl (by kernel_rfl) (by kernel_rfl) ?_; (try simp only [nA, Nat.reduceBEq, Nat.reduceEqDiff, ↓reduceIte, Nat.reduceAdd, Nat.reduceSub])
       refine aeLo 13 rfl (op_store_nest (r := 1) (q := 2) rfl rfl rfl rfl (row := ((oav c).set 7 (.v u))) (by simp [hlt]) sz35 rfl (by decide) (by simp) (by simp) (put_set2 (c := c) _ (c.plates ++ [(platesP (gmod (rawV l k2) 60))]))) (by kernel_rfl) (by kernel_rfl) ?_; (try simp only [nA, Nat.reduceBEq, Nat.reduceEqDiff, ↓reduceIte, Nat.reduceAdd, Nat.reduceSub])
       refine aeDoneo (by kernel_rfl) ?_
       (try simp only [thenE, inBlk, Nat.reduceEqDiff, ↓reduceIte])
       (refine hK _ ?_; clear hK K; (try simp only [nA, Nat.reduceBEq, Nat.reduceEqDiff, ↓reduceIte, Nat.reduceAdd, Nat.reduceSub]))
       (refine AW.seq_k ?_; intro K hK)
       refine AW.region ?_
       refine awP (op_move rfl rfl) ?_; (try simp only [nA, Nat.reduceBEq, Nat.reduceEqDiff, ↓reduceIte, Nat.reduceAdd, Nat.reduceSub])
       refine awP (op_assign rfl rfl) ?_; (try simp only [nA, Nat.reduceBEq, Nat.reduceEqDiff, ↓reduceIte, Nat.reduceAdd, Nat.reduceSub])
       refine AWL.nil ?_
       (refine hK _ ?_; clear hK K; (try simp only [nA, Nat.reduceBEq, Nat.reduceEqDiff, ↓reduceIte, Nat.reduceAdd, Nat.reduceSub]))
       refine AW.gh (Gh.freezeN 4 (Nat.le_of_ble_eq_true rfl) rfl rfl (oav_flat2 (xs.set i (addP c (platesP (gmod (rawV l k2) 60))))) (es' := (xs.set i (addP c (platesP (gmod (rawV l k2) 60)))).map Cart.av) (by rw [List.take_of_length_le (by simp)]; exact oav_fz _)) ?_; (try simp only [nA, Nat.reduceBEq, Nat.reduceEqDiff, ↓reduceIte, Nat.reduceAdd, Nat.reduceSub])
       refine AW.ret ?_; (try simp only [thenE, inBlk, Nat.reduceEqDiff, ↓reduceIte]); rw [eS]; unfold spF; rw [if_neg hc2, if_neg hc3, if_neg hc4, if_pos hc5]; exact RQ.of (.inl rfl) rfl (.tmp (Nat.le_of_ble_eq_true rfl) rfl rfl .nil) (by simp) rfl (one_out rfl)
      ·
       (try simp only [hcS] at hc); have hc5 := hc; skip
       (refine AW.seq_k ?_; intro K hK)
       refine AW.region ?_
       (first | refine awP (op_eql rfl rfl rfl) ?_ | refine awP (op_seql rfl rfl rfl) ?_); (try simp only [nA, Nat.reduceBEq, Nat.reduceEqDiff, ↓reduceIte, Nat.reduceAdd, Nat.reduceSub])
       refine awP (op_assign rfl rfl) ?_; (try simp only [nA, Nat.reduceBEq, Nat.reduceEqDiff, ↓reduceIte, Nat.reduceAdd, Nat.reduceSub])
       refine AWL.nil ?_
       (refine hK _ ?_; clear hK K; (try simp only [nA, Nat.reduceBEq, Nat.reduceEqDiff, ↓reduceIte, Nat.reduceAdd, Nat.reduceSub]))
       refine AW.cond rfl rfl rfl (fun hc => ?_) (fun hc => ?_)
       ·
        (try simp only [hcS] at hc); have hc6 := hc; skip
        refine AW.region ?_
        refine awP (op_move rfl rfl) ?_; (try simp only [nA, Nat.reduceBEq, Nat.reduceEqDiff, ↓reduceIte, Nat.reduceAdd, Nat.reduceSub])
        refine awP (op_move rfl rfl) ?_; (try simp only [nA, Nat.reduceBEq, Nat.reduceEqDiff, ↓reduceIte, Nat.reduceAdd, Nat.reduceSub])
        refine awP (op_move rfl rfl) ?_; (try simp only [nA, Nat.reduceBEq, Nat.reduceEqDiff, ↓reduceIte, Nat.reduceAdd, Nat.reduceSub])
        refine awP (op_move rfl rfl) ?_; (try simp only [nA, Nat.reduceBEq, Nat.reduceEqDiff, ↓reduceIte, Nat.reduceAdd, Nat.reduceSub])
        refine awP (op_ia_sl i 9 rfl rfl rfl rfl Try.underlying22 rfl hlt (by exact sz48) (Nat.zero_add _)) ?_; (try simp only [nA, Nat.reduceBEq, Nat.reduceEqDiff, ↓reduceIte, Nat.reduceAdd, Nat.reduceSub])
        (first | refine awP (op_fa_ptr rfl rfl rfl fl48_5 (by exact sz4) (by decide) rfl) ?_ | refine awP (op_fa_rop rfl rfl fl48_5 (by exact sz4) (by decide) (Nat.le_of_ble_eq_true rfl) rfl) ?_); (try simp only [nA, Nat.reduceBEq, Nat.reduceEqDiff, ↓reduceIte, Nat.reduceAdd, Nat.reduceSub])
        (first | refine awR (op_load_ptr1 rfl rfl rfl (get_of (f := oav) hci) ag4 rfl rfl) ?_ | refine awR (op_load_rop1 rfl rfl ag4) ?_); (try simp only [nA, Nat.reduceBEq, Nat.reduceEqDiff, ↓reduceIte, Nat.reduceAdd, Nat.reduceSub])
        refine awP (op_not rfl rfl rfl) ?_; (try simp only [nA, Nat.reduceBEq, Nat.reduceEqDiff, ↓reduceIte, Nat.reduceAdd, Nat.reduceSub])
        refine awP (op_ia_sl i 9 rfl rfl rfl rfl Try.underlying22 rfl hlt (by exact sz48) (Nat.zero_add _)) ?_; (try simp only [nA, Nat.reduceBEq, Nat.reduceEqDiff, ↓reduceIte, Nat.reduceAdd, Nat.reduceSub])
        (first | refine awP (op_fa_ptr rfl rfl rfl fl48_5 (by exact sz4) (by decide) rfl) ?_ | refine awP (op_fa_rop rfl rfl fl48_5 (by exact sz4) (by decide) (Nat.le_of_ble_eq_true rfl) rfl) ?_); (try simp only [nA, Nat.reduceBEq, Nat.reduceEqDiff, ↓reduceIte, Nat.reduceAdd, Nat.reduceSub])
        refine awJ (op_store rfl rfl rfl rfl (get_of (f := oav) hci) rfl sz4 rfl (Nat.le_of_ble_eq_true rfl) (set_oav (c' := { c with away := !c.away }) rfl)) ?_; (try simp only [nA, Nat.reduceBEq, Nat.reduceEqDiff, ↓reduceIte, Nat.reduceAdd, Nat.reduceSub])
        refine AWL.nil ?_
        (try simp only [thenE, inBlk, Nat.reduceEqDiff, ↓reduceIte])
        (refine hK _ ?_; clear hK K; (try simp only [nA, Nat.reduceBEq, Nat.reduceEqDiff, ↓reduceIte, Nat.reduceAdd, Nat.reduceSub]))
        (refine AW.seq_k ?_; intro K hK)
        refine AW.region ?_
        refine awP (op_move rfl rfl) ?_; (try simp only [nA, Nat.reduceBEq, Nat.reduceEqDiff, ↓reduceIte, Nat.reduceAdd, Nat.reduceSub])
        refine awP (op_assign rfl rfl) ?_; (try simp only [nA, Nat.reduceBEq, Nat.reduceEqDiff, ↓reduceIte, Nat.reduceAdd, Nat.reduceSub])
        refine AWL.nil ?_
        (refine hK _ ?_; clear hK K; (try simp only [nA, Nat.reduceBEq, Nat.reduceEqDiff, ↓reduceIte, Nat.reduceAdd, Nat.reduceSub]))
        refine AW.gh (Gh.freezeN 4 (Nat.le_of_ble_eq_true rfl) rfl rfl (oav_flat2 (xs.set i { c with away := !c.away })) (es' := (xs.set i { c with away := !c.away }).map Cart.av) (by rw [List.take_of_length_le (by simp)]; exact oav_fz _)) ?_; (try simp only [nA, Nat.reduceBEq, Nat.reduceEqDiff, ↓reduceIte, Nat.reduceAdd, Nat.reduceSub])
        refine AW.ret ?_; (try simp only [thenE, inBlk, Nat.reduceEqDiff, ↓reduceIte]); rw [eS]; unfold spF; rw [if_neg hc2, if_neg hc3, if_neg hc4, if_neg hc5, if_pos hc6]; exact RQ.of (.inl rfl) rfl (.tmp (Nat.le_of_ble_eq_true rfl) rfl rfl .nil) (by simp) rfl (one_out rfl)
       ·
        (try simp only [hcS] at hc); have hc6 := hc; skip
        (refine AW.seq_k ?_; intro K hK)
        refine AW.region ?_
        (first | refine awP (op_eql rfl rfl rfl) ?_ | refine awP (op_seql rfl rfl rfl) ?_); (try simp only [nA, Nat.reduceBEq, Nat.reduceEqDiff, ↓reduceIte, Nat.reduceAdd, Nat.reduceSub])
        refine awP (op_assign rfl rfl) ?_; (try simp only [nA, Nat.reduceBEq, Nat.reduceEqDiff, ↓reduceIte, Nat.reduceAdd, Nat.reduceSub])
        refine AWL.nil ?_
        (refine hK _ ?_; clear hK K; (try simp only [nA, Nat.reduceBEq, Nat.reduceEqDiff, ↓reduceIte, Nat.reduceAdd, Nat.reduceSub]))
        refine AW.cond rfl rfl rfl (fun hc => ?_) (fun hc => ?_)
        ·
         (try simp only [hcS] at hc); have hc7 := hc; skip
         refine AW.region ?_
         refine awP (op_move rfl rfl) ?_; (try simp only [nA, Nat.reduceBEq, Nat.reduceEqDiff, ↓reduceIte, Nat.reduceAdd, Nat.reduceSub])
         refine awP (op_move rfl rfl) ?_; (try simp only [nA, Nat.reduceBEq, Nat.reduceEqDiff, ↓reduceIte, Nat.reduceAdd, Nat.reduceSub])
         refine awP (op_ia_sl i 9 rfl rfl rfl rfl Try.underlying22 rfl hlt (by exact sz48) (Nat.zero_add _)) ?_; (try simp only [nA, Nat.reduceBEq, Nat.reduceEqDiff, ↓reduceIte, Nat.reduceAdd, Nat.reduceSub])
         (first | refine awP (op_fa_ptr rfl rfl rfl fl48_2 (by exact sz45) (by decide) rfl) ?_ | refine awP (op_fa_rop rfl rfl fl48_2 (by exact sz45) (by decide) (Nat.le_of_ble_eq_true rfl) rfl) ?_); (try simp only [nA, Nat.reduceBEq, Nat.reduceEqDiff, ↓reduceIte, Nat.reduceAdd, Nat.reduceSub])
         (first | refine awP (op_fa_ptr rfl rfl rfl fl45_1 (by exact sz3) (by decide) rfl) ?_ | refine awP (op_fa_rop rfl rfl fl45_1 (by exact sz3) (by decide) (Nat.le_of_ble_eq_true rfl) rfl) ?_); (try simp only [nA, Nat.reduceBEq, Nat.reduceEqDiff, ↓reduceIte, Nat.reduceAdd, Nat.reduceSub])
         refine awJ (op_store rfl rfl rfl rfl (get_of (f := oav) hci) rfl sz3 rfl (Nat.le_of_ble_eq_true rfl) (set_oav (c' := { c with flight := { c.flight with number := 0 } }) rfl)) ?_; (try simp only [nA, Nat.reduceBEq, Nat.reduceEqDiff, ↓reduceIte, Nat.reduceAdd, Nat.reduceSub])
         refine AWL.nil ?_
         (try simp only [thenE, inBlk, Nat.reduceEqDiff, ↓reduceIte])
         (refine hK _ ?_; clear hK K; (try simp only [nA, Nat.reduceBEq, Nat.reduceEqDiff, ↓reduceIte, Nat.reduceAdd, Nat.reduceSub]))
         (refine AW.seq_k ?_; intro K hK)
         refine AW.region ?_
         refine awP (op_move rfl rfl) ?_; (try simp only [nA, Nat.reduceBEq, Nat.reduceEqDiff, ↓reduceIte, Nat.reduceAdd, Nat.reduceSub])
         refine awP (op_assign rfl rfl) ?_; (try simp only [nA, Nat.reduceBEq, Nat.reduceEqDiff, ↓reduceIte, Nat.reduceAdd, Nat.reduceSub])
         refine AWL.nil ?_
         (refine hK _ ?_; clear hK K; (try simp only [nA, Nat.reduceBEq, Nat.reduceEqDiff, ↓reduceIte, Nat.reduceAdd, Nat.reduceSub]))
         refine AW.gh (Gh.freezeN 4 (Nat.le_of_ble_eq_true rfl) rfl rfl (oav_flat2 (xs.set i { c with flight := { c.flight with number := 0 } })) (es' := (xs.set i { c with flight := { c.flight with number := 0 } }).map Cart.av) (by rw [List.take_of_length_le (by simp)]; exact oav_fz _)) ?_; (try simp only [nA, Nat.reduceBEq, Nat.reduceEqDiff, ↓reduceIte, Nat.reduceAdd, Nat.reduceSub])
         refine AW.ret ?_; (try simp only [thenE, inBlk, Nat.reduceEqDiff, ↓reduceIte]); rw [eS]; unfold spF; rw [if_neg hc2, if_neg hc3, if_neg hc4, if_neg hc5, if_neg hc6, if_pos hc7]; exact RQ.of (.inl rfl) rfl (.tmp (Nat.le_of_ble_eq_true rfl) rfl rfl .nil) (by simp) rfl (one_out rfl)
        ·
         (try simp only [hcS] at hc); have hc7 := hc; skip
         refine AW.region ?_
         refine awP (op_move rfl rfl) ?_; (try simp only [nA, Nat.reduceBEq, Nat.reduceEqDiff, ↓reduceIte, Nat.reduceAdd, Nat.reduceSub])
         refine awP (op_move rfl rfl) ?_; (try simp only [nA, Nat.reduceBEq, Nat.reduceEqDiff, ↓reduceIte, Nat.reduceAdd, Nat.reduceSub])
         refine awP (op_move rfl rfl) ?_; (try simp only [nA, Nat.reduceBEq, Nat.reduceEqDiff, ↓reduceIte, Nat.reduceAdd, Nat.reduceSub])
         refine awP (op_move rfl rfl) ?_; (try simp only [nA, Nat.reduceBEq, Nat.reduceEqDiff, ↓reduceIte, Nat.reduceAdd, Nat.reduceSub])
         refine awP (op_ia_sl i 9 rfl rfl rfl rfl Try.underlying22 rfl hlt (by exact sz48) (Nat.zero_add _)) ?_; (try simp only [nA, Nat.reduceBEq, Nat.reduceEqDiff, ↓reduceIte, Nat.reduceAdd, Nat.reduceSub])
         (first | refine awP (op_fa_ptr rfl rfl rfl fl48_4 (by exact sz35) (by decide) rfl) ?_ | refine awP (op_fa_rop rfl rfl fl48_4 (by exact sz35) (by decide) (Nat.le_of_ble_eq_true rfl) rfl) ?_); (try simp only [nA, Nat.reduceBEq, Nat.reduceEqDiff, ↓reduceIte, Nat.reduceAdd, Nat.reduceSub])
         refine awJ (op_load_nest (i := i) (j := 7) (row := oav c) rfl rfl rfl (get_of (f := oav) hci) ag35 rfl rfl) ?_; (try simp only [nA, Nat.reduceBEq, Nat.reduceEqDiff, ↓reduceIte, Nat.reduceAdd, Nat.reduceSub])
         refine awP (op_build2 (xs := [.v (.int .i64 0), .v (.int .i64 0), .v (.int .i64 0)]) rfl pl25 ze25 [] rfl rfl rfl) ?_; (try simp only [nA, Nat.reduceBEq, Nat.reduceEqDiff, ↓reduceIte, Nat.reduceAdd, Nat.reduceSub])
         refine awJ (OpJ.frz (op_buildSlice rfl [(0, zeroP.av)] [zeroP.av] Try.underlying35 ze25 rfl (by simp) rfl (by simp) rfl (Nat.le_of_ble_eq_true rfl) (by simp [maxLen])) (pav_flat [zeroP]) rfl) ?_; (try simp only [nA, Nat.reduceBEq, Nat.reduceEqDiff, ↓reduceIte, Nat.reduceAdd, Nat.reduceSub]); skip; (try simp only [nA, Nat.reduceBEq, Nat.reduceEqDiff, ↓reduceIte, Nat.reduceAdd, Nat.reduceSub])
         refine awJ (op_app (rows := [zeroP.av]) rfl rfl rfl rfl (by simp) .ro Try.underlying35 ze25 (by decide) (by simp) (by simp; omega) (by decide) (es' := (c.plates ++ [zeroP]).map Plate.av) (by simp) (n := (c.plates ++ [zeroP]).length) (by simp)) ?_; (try simp only [nA, Nat.reduceBEq, Nat.reduceEqDiff, ↓reduceIte, Nat.reduceAdd, Nat.reduceSub])
         refine awP (op_ia_sl i 9 rfl rfl rfl rfl Try.underlying22 rfl hlt (by exact sz48) (Nat.zero_add _)) ?_; (try simp only [nA, Nat.reduceBEq, Nat.reduceEqDiff, ↓reduceIte, Nat.reduceAdd, Nat.reduceSub])
         (first | refine awP (op_fa_ptr rfl rfl rfl fl48_4 (by exact sz35) (by decide) rfl) ?_ | refine awP (op_fa_rop rfl rfl fl48_4 (by exact sz35) (by decide) (Nat.le_of_ble_eq_true rfl) rfl) ?_); (try simp only [nA, Nat.reduceBEq, Nat.reduceEqDiff, ↓reduceIte, Nat.reduceAdd, Nat.reduceSub])
         refine awJ (op_store_nest (r := 1) (q := 2) rfl rfl rfl rfl (row := ((oav c).set 7 (.sln c.plates.length))) (by simp [hlt]) sz35 rfl (by decide) (by simp) (by simp) (put_set2 (c := c) _ (c.plates ++ [zeroP]))) ?_; (try simp only [nA, Nat.reduceBEq, Nat.reduceEqDiff, ↓reduceIte, Nat.reduceAdd, Nat.reduceSub])
         refine AWL.nil ?_
         (try simp only [thenE, inBlk, Nat.reduceEqDiff, ↓reduceIte])
         (refine hK _ ?_; clear hK K; (try simp only [nA, Nat.reduceBEq, Nat.reduceEqDiff, ↓reduceIte, Nat.reduceAdd, Nat.reduceSub]))
         (refine AW.seq_k ?_; intro K hK)
         refine AW.region ?_
         refine awP (op_move rfl rfl) ?_; (try simp only [nA, Nat.reduceBEq, Nat.reduceEqDiff, ↓reduceIte, Nat.reduceAdd, Nat.reduceSub])
         refine awP (op_assign rfl rfl) ?_; (try simp only [nA, Nat.reduceBEq, Nat.reduceEqDiff, ↓reduceIte, Nat.reduceAdd, Nat.reduceSub])
         refine AWL.nil ?_
         (refine hK _ ?_; clear hK K; (try simp only [nA, Nat.reduceBEq, Nat.reduceEqDiff, ↓reduceIte, Nat.reduceAdd, Nat.reduceSub]))
         refine AW.gh (Gh.freezeN 4 (Nat.le_of_ble_eq_true rfl) rfl rfl (oav_flat2 (xs.set i (addP c zeroP))) (es' := (xs.set i (addP c zeroP)).map Cart.av) (by rw [List.take_of_length_le (by simp)]; exact oav_fz _)) ?_; (try simp only [nA, Nat.reduceBEq, Nat.reduceEqDiff, ↓reduceIte, Nat.reduceAdd, Nat.reduceSub])
         refine AW.ret ?_; (try simp only [thenE, inBlk, Nat.reduceEqDiff, ↓reduceIte]); rw [eS]; unfold spF; rw [if_neg hc2, if_neg hc3, if_neg hc4, if_neg hc5, if_neg hc6, if_neg hc7]; exact RQ.of (.inl rfl) rfl (.tmp (Nat.le_of_ble_eq_true rfl) rfl rfl .nil) (by simp) rfl (one_out rfl)
end Go.Proofs.Ytbbedhidiffdgaa
