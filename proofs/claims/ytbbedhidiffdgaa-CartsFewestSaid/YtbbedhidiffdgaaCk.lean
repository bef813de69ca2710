import Derived.Test.YtbbedhidiffdgaaCj
namespace Go.Proofs.Ytbbedhidiffdgaa
open Go.RowKit
set_option linter.unusedSimpArgs false
set_option linter.unusedVariables false

abbrev zrow48 : List AV := [.v (.int .i64 0), .v (.int .i64 0), .v (.string ⟨#[]⟩), .v (.int .i64 0), .v (.string ⟨#[]⟩), .v (.int .i64 0), .v (.int .i64 0), .v (.slice none 0 0), .v (.bool false)]
theorem clr_row {α : Type} (f : α → List AV) {l : List α} {k : Nat} (hk : k < l.length) (x : List AV) : splice ((l.eraseIdx k ++ l.drop (l.length - 1)).map f) (l.length - 1) (List.replicate 1 x) = (l.eraseIdx k).map f ++ [x] := by
  have h := clr_spl (l := l.map f) (d := (l.drop (l.length - 1)).map f) (k := k) (by simpa using hk) (by simp; omega) x
  rw [List.length_map, ← map_erase] at h
  rw [List.map_append]; exact h
theorem C54 {l : List Cart} {k : Nat} (hk : k < l.length) (hl : l.length ≤ 1000000) : Fn Try.prog 54 [.own 48 (l.map Cart.av)] [.sl 0 0 0 l.length, .v (.int .i64 (k : Nat)), .v (.int .i64 ((k : Int) + 1))] [.sl 0 0 0 (l.length - 1)] [.own 48 ((l.eraseIdx k).map Cart.av ++ [zrow48])] := by
  refine Spec.body Try.func54 rfl Try.ntmps54 (by simp) rfl ?_; intro S0 own0 v0 w0
  (refine AW.seq_k ?_; intro K hK)
  refine AW.region ?_
  refine awP (op_assign rfl rfl) ?_; (try simp only [nA, Nat.reduceBEq, Nat.reduceEqDiff, ↓reduceIte, Nat.reduceAdd, Nat.reduceSub])
  refine AWL.nil ?_
  (refine hK _ ?_; clear hK K; (try simp only [nA, Nat.reduceBEq, Nat.reduceEqDiff, ↓reduceIte, Nat.reduceAdd, Nat.reduceSub]))
  (refine AW.seq_k ?_; intro K hK)
  refine AW.region ?_
  refine awP (op_move rfl rfl) ?_; (try simp only [nA, Nat.reduceBEq, Nat.reduceEqDiff, ↓reduceIte, Nat.reduceAdd, Nat.reduceSub])
  refine awP (op_move rfl rfl) ?_; (try simp only [nA, Nat.reduceBEq, Nat.reduceEqDiff, ↓reduceIte, Nat.reduceAdd, Nat.reduceSub])
  refine awP (op_move rfl rfl) ?_; (try simp only [nA, Nat.reduceBEq, Nat.reduceEqDiff, ↓reduceIte, Nat.reduceAdd, Nat.reduceSub])
  refine awP (op_move rfl rfl) ?_; (try simp only [nA, Nat.reduceBEq, Nat.reduceEqDiff, ↓reduceIte, Nat.reduceAdd, Nat.reduceSub])
  (first | refine awP (op_len_ro rfl rfl Try.underlying22 (by first | exact .inr (.inl ⟨_, rfl, rfl⟩) | exact .inl rfl | exact .inr (.inr (.inl ⟨_, rfl, rfl⟩)) | exact .inr (.inr (.inr ⟨rfl, rfl⟩)))) ?_ | refine awP (op_len_sl rfl rfl rfl Try.underlying22) ?_ | refine awP (op_len_str rfl rfl Try.underlying22) ?_); (try simp only [nA, Nat.reduceBEq, Nat.reduceEqDiff, ↓reduceIte, Nat.reduceAdd, Nat.reduceSub])
  refine awP (op_slice3_any (l := k) (hh := k + 1) (m := l.length) rfl rfl rfl rfl rfl rfl (by omega) (by omega) (Nat.le_refl _) Try.underlying22) ?_; (try simp only [nA, Nat.reduceBEq, Nat.reduceEqDiff, ↓reduceIte, Nat.reduceAdd, Nat.reduceSub])
  refine AWL.nil ?_
  (refine hK _ ?_; clear hK K; (try simp only [nA, Nat.reduceBEq, Nat.reduceEqDiff, ↓reduceIte, Nat.reduceAdd, Nat.reduceSub]))
  (refine AW.seq_k ?_; intro K hK)
  (refine AW.seq_k ?_; intro K hK)
  refine AW.region ?_
  refine awP (op_move rfl rfl) ?_; (try simp only [nA, Nat.reduceBEq, Nat.reduceEqDiff, ↓reduceIte, Nat.reduceAdd, Nat.reduceSub])
  refine awP (op_move rfl rfl) ?_; (try simp only [nA, Nat.reduceBEq, Nat.reduceEqDiff, ↓reduceIte, Nat.reduceAdd, Nat.reduceSub])
  (first | refine awP (op_eql rfl rfl rfl) ?_ | refine awP (op_seql rfl rfl rfl) ?_); (try simp only [nA, Nat.reduceBEq, Nat.reduceEqDiff, ↓reduceIte, Nat.reduceAdd, Nat.reduceSub])
  refine AWL.nil ?_
  (refine hK _ ?_; clear hK K; (try simp only [nA, Nat.reduceBEq, Nat.reduceEqDiff, ↓reduceIte, Nat.reduceAdd, Nat.reduceSub]))
  refine AW.cond rfl rfl rfl (fun hc => ?_) (fun hc => ?_)
  · first | (cases hc; done) | (simp at hc; done) | (simp at hc; omega)
  ·
   (try simp only [hcS] at hc); have hc1 := hc; skip
   refine AW.skip ?_
   (refine hK _ ?_; clear hK K; (try simp only [nA, Nat.reduceBEq, Nat.reduceEqDiff, ↓reduceIte, Nat.reduceAdd, Nat.reduceSub]))
   (refine AW.seq_k ?_; intro K hK)
   refine AW.region ?_
   refine awP (op_move rfl rfl) ?_; (try simp only [nA, Nat.reduceBEq, Nat.reduceEqDiff, ↓reduceIte, Nat.reduceAdd, Nat.reduceSub])
   (first | refine awP (op_len_ro rfl rfl Try.underlying22 (by first | exact .inr (.inl ⟨_, rfl, rfl⟩) | exact .inl rfl | exact .inr (.inr (.inl ⟨_, rfl, rfl⟩)) | exact .inr (.inr (.inr ⟨rfl, rfl⟩)))) ?_ | refine awP (op_len_sl rfl rfl rfl Try.underlying22) ?_ | refine awP (op_len_str rfl rfl Try.underlying22) ?_); (try simp only [nA, Nat.reduceBEq, Nat.reduceEqDiff, ↓reduceIte, Nat.reduceAdd, Nat.reduceSub])
   refine awP (op_assign rfl rfl) ?_; (try simp only [nA, Nat.reduceBEq, Nat.reduceEqDiff, ↓reduceIte, Nat.reduceAdd, Nat.reduceSub])
   refine AWL.nil ?_
   (refine hK _ ?_; clear hK K; (try simp only [nA, Nat.reduceBEq, Nat.reduceEqDiff, ↓reduceIte, Nat.reduceAdd, Nat.reduceSub]))
   (refine AW.seq_k ?_; intro K hK)
   refine AW.quiet_tail 6 mix (by kernel_rfl) rfl rfl ?_
   refine aqP (op_move rfl rfl) ?_; (try simp only [nA, Nat.reduceBEq, Nat.reduceEqDiff, ↓reduceIte, Nat.reduceAdd, Nat.reduceSub])
   refine aqP (op_move rfl rfl) ?_; (try simp only [nA, Nat.reduceBEq, Nat.reduceEqDiff, ↓reduceIte, Nat.reduceAdd, Nat.reduceSub])
   refine aqP (op_slice_sl 0 k rfl rfl rfl (by exact rfl) (by exact ⟨_, rfl⟩) (Nat.zero_le _) (by omega) Try.underlying22 (Nat.zero_add _) (Nat.sub_zero _)) ?_; (try simp only [nA, Nat.reduceBEq, Nat.reduceEqDiff, ↓reduceIte, Nat.reduceAdd, Nat.reduceSub])
   refine aqP (op_move rfl rfl) ?_; (try simp only [nA, Nat.reduceBEq, Nat.reduceEqDiff, ↓reduceIte, Nat.reduceAdd, Nat.reduceSub])
   refine aqP (op_move rfl rfl) ?_; (try simp only [nA, Nat.reduceBEq, Nat.reduceEqDiff, ↓reduceIte, Nat.reduceAdd, Nat.reduceSub])
   refine aqP (op_slice_sl (k + 1) l.length rfl rfl rfl (by exact ⟨_, rfl⟩) (by exact rfl) (by omega) (Nat.le_refl _) Try.underlying22 (Nat.zero_add _) rfl) ?_; (try simp only [nA, Nat.reduceBEq, Nat.reduceEqDiff, ↓reduceIte, Nat.reduceAdd, Nat.reduceSub])
   refine AQ.nil ?_
   refine awJ (op_app_in (rows := (l.drop (k + 1)).map Cart.av) rfl rfl rfl rfl (.sl rfl (by rw [List.take_of_length_le (by simp), ← List.map_drop, map_ldcC])) Try.underlying22 ze48 (cav_len _) (by simp; omega) (by simp; omega) (del_map Cart.av hk) (n := l.length - 1) (by simp; omega)) ?_; (try simp only [nA, Nat.reduceBEq, Nat.reduceEqDiff, ↓reduceIte, Nat.reduceAdd, Nat.reduceSub])
   refine awP (op_assign rfl rfl) ?_; (try simp only [nA, Nat.reduceBEq, Nat.reduceEqDiff, ↓reduceIte, Nat.reduceAdd, Nat.reduceSub])
   refine AWL.nil ?_
   (refine hK _ ?_; clear hK K; (try simp only [nA, Nat.reduceBEq, Nat.reduceEqDiff, ↓reduceIte, Nat.reduceAdd, Nat.reduceSub]))
   (refine AW.seq_k ?_; intro K hK)
   refine AW.region ?_
   refine awP (op_move rfl rfl) ?_; (try simp only [nA, Nat.reduceBEq, Nat.reduceEqDiff, ↓reduceIte, Nat.reduceAdd, Nat.reduceSub])
   refine awP (op_move rfl rfl) ?_; (try simp only [nA, Nat.reduceBEq, Nat.reduceEqDiff, ↓reduceIte, Nat.reduceAdd, Nat.reduceSub])
   (first | refine awP (op_len_ro rfl rfl Try.underlying22 (by first | exact .inr (.inl ⟨_, rfl, rfl⟩) | exact .inl rfl | exact .inr (.inr (.inl ⟨_, rfl, rfl⟩)) | exact .inr (.inr (.inr ⟨rfl, rfl⟩)))) ?_ | refine awP (op_len_sl rfl rfl rfl Try.underlying22) ?_ | refine awP (op_len_str rfl rfl Try.underlying22) ?_); (try simp only [nA, Nat.reduceBEq, Nat.reduceEqDiff, ↓reduceIte, Nat.reduceAdd, Nat.reduceSub])
   refine awP (op_move rfl rfl) ?_; (try simp only [nA, Nat.reduceBEq, Nat.reduceEqDiff, ↓reduceIte, Nat.reduceAdd, Nat.reduceSub])
   refine awP (op_slice_cap (l.length - 1) l.length rfl rfl rfl (by exact ⟨_, rfl⟩) (by exact ⟨_, rfl⟩) (by omega) (by simp [List.length_eraseIdx, hk] <;> omega) Try.underlying22 rfl (len' := 1) (by omega)) ?_; (try simp only [nA, Nat.reduceBEq, Nat.reduceEqDiff, ↓reduceIte, Nat.reduceAdd, Nat.reduceSub])
   refine awJ (op_clear rfl rfl rfl Try.underlying22 ze48 (row := zrow48) rfl (clr_row Cart.av hk zrow48)) ?_; (try simp only [nA, Nat.reduceBEq, Nat.reduceEqDiff, ↓reduceIte, Nat.reduceAdd, Nat.reduceSub])
   refine AWL.nil ?_
   (refine hK _ ?_; clear hK K; (try simp only [nA, Nat.reduceBEq, Nat.reduceEqDiff, ↓reduceIte, Nat.reduceAdd, Nat.reduceSub]))
   (refine AW.seq_k ?_; intro K hK)
   refine AW.region ?_
   refine awP (op_move rfl rfl) ?_; (try simp only [nA, Nat.reduceBEq, Nat.reduceEqDiff, ↓reduceIte, Nat.reduceAdd, Nat.reduceSub])
   refine awP (op_assign rfl rfl) ?_; (try simp only [nA, Nat.reduceBEq, Nat.reduceEqDiff, ↓reduceIte, Nat.reduceAdd, Nat.reduceSub])
   refine AWL.nil ?_
   (refine hK _ ?_; clear hK K; (try simp only [nA, Nat.reduceBEq, Nat.reduceEqDiff, ↓reduceIte, Nat.reduceAdd, Nat.reduceSub]))
   skip
   refine AW.ret ?_; (try simp only [thenE, inBlk, Nat.reduceEqDiff, ↓reduceIte]); exact RQ.keep1 rfl (Nat.le_of_ble_eq_true rfl) rfl rfl rfl
theorem C53 {xs : List Cart} {a b : Int} : Fn Try.prog 53 [] [.ro (xs.map Cart.av), .v (.int .i64 a), .v (.int .i64 b)] [.v (.int .i64 (numI xs a)), .v (.int .i64 (numI xs b)), .v (.bool (decide (numI xs a ≥ 0) && decide (numI xs b ≥ 0)))] [] := by
  refine Spec.body Try.func53 rfl Try.ntmps53 (by simp) rfl ?_; intro S0 own0 v0 w0
  (refine AW.seq_k ?_; intro K hK)
  refine AW.region ?_
  refine awP (op_assign rfl rfl) ?_; (try simp only [nA, Nat.reduceBEq, Nat.reduceEqDiff, ↓reduceIte, Nat.reduceAdd, Nat.reduceSub])
  refine awP (op_assign rfl rfl) ?_; (try simp only [nA, Nat.reduceBEq, Nat.reduceEqDiff, ↓reduceIte, Nat.reduceAdd, Nat.reduceSub])
  refine awP (op_assign rfl rfl) ?_; (try simp only [nA, Nat.reduceBEq, Nat.reduceEqDiff, ↓reduceIte, Nat.reduceAdd, Nat.reduceSub])
  refine AWL.nil ?_
  (refine hK _ ?_; clear hK K; (try simp only [nA, Nat.reduceBEq, Nat.reduceEqDiff, ↓reduceIte, Nat.reduceAdd, Nat.reduceSub]))
  (refine AW.seq_k ?_; intro K hK)
  refine AW.region ?_
  refine awP (op_move rfl rfl) ?_; (try simp only [nA, Nat.reduceBEq, Nat.reduceEqDiff, ↓reduceIte, Nat.reduceAdd, Nat.reduceSub])
  refine awP (op_move rfl rfl) ?_; (try simp only [nA, Nat.reduceBEq, Nat.reduceEqDiff, ↓reduceIte, Nat.reduceAdd, Nat.reduceSub])
  refine awJ (OpQ.j (op_callQ (b := true) rfl en52 (C52 (xs := xs) (n := a)) (RL.cons (by first | exact View.same rfl | exact View.nil | exact View.rof | exact View.src .ro | exact View.src .rof | exact View.src (.sl rfl rfl) | exact View.ptr rfl rfl rfl) (RL.cons (by first | exact View.same rfl | exact View.nil | exact View.rof | exact View.src .ro | exact View.src .rof | exact View.src (.sl rfl rfl) | exact View.ptr rfl rfl rfl) (RL.nil))) rfl)) ?_; (try simp only [nA, Nat.reduceBEq, Nat.reduceEqDiff, ↓reduceIte, Nat.reduceAdd, Nat.reduceSub])
  refine awP (op_move rfl rfl) ?_; (try simp only [nA, Nat.reduceBEq, Nat.reduceEqDiff, ↓reduceIte, Nat.reduceAdd, Nat.reduceSub])
  refine awP (op_move rfl rfl) ?_; (try simp only [nA, Nat.reduceBEq, Nat.reduceEqDiff, ↓reduceIte, Nat.reduceAdd, Nat.reduceSub])
  refine awJ (OpQ.j (op_callQ (b := true) rfl en52 (C52 (xs := xs) (n := b)) (RL.cons (by first | exact View.same rfl | exact View.nil | exact View.rof | exact View.src .ro | exact View.src .rof | exact View.src (.sl rfl rfl) | exact View.ptr rfl rfl rfl) (RL.cons (by first | exact View.same rfl | exact View.nil | exact View.rof | exact View.src .ro | exact View.src .rof | exact View.src (.sl rfl rfl) | exact View.ptr rfl rfl rfl) (RL.nil))) rfl)) ?_; (try simp only [nA, Nat.reduceBEq, Nat.reduceEqDiff, ↓reduceIte, Nat.reduceAdd, Nat.reduceSub])
  refine awP (op_assign rfl rfl) ?_; (try simp only [nA, Nat.reduceBEq, Nat.reduceEqDiff, ↓reduceIte, Nat.reduceAdd, Nat.reduceSub])
  refine awP (op_assign rfl rfl) ?_; (try simp only [nA, Nat.reduceBEq, Nat.reduceEqDiff, ↓reduceIte, Nat.reduceAdd, Nat.reduceSub])
  refine AWL.nil ?_
  (refine hK _ ?_; clear hK K; (try simp only [nA, Nat.reduceBEq, Nat.reduceEqDiff, ↓reduceIte, Nat.reduceAdd, Nat.reduceSub]))
  (refine AW.seq_k ?_; intro K hK)
  refine AW.region (AWL.quiet ?_)
  refine aqP (op_move rfl rfl) ?_; (try simp only [nA, Nat.reduceBEq, Nat.reduceEqDiff, ↓reduceIte, Nat.reduceAdd, Nat.reduceSub])
  refine aqP (op_move rfl rfl) ?_; (try simp only [nA, Nat.reduceBEq, Nat.reduceEqDiff, ↓reduceIte, Nat.reduceAdd, Nat.reduceSub])
  refine aqP (op_move rfl rfl) ?_; (try simp only [nA, Nat.reduceBEq, Nat.reduceEqDiff, ↓reduceIte, Nat.reduceAdd, Nat.reduceSub])
  refine aqP (op_geq rfl rfl rfl) ?_; (try simp only [nA, Nat.reduceBEq, Nat.reduceEqDiff, ↓reduceIte, Nat.reduceAdd, Nat.reduceSub])
  refine aqP (op_move rfl rfl) ?_; (try simp only [nA, Nat.reduceBEq, Nat.reduceEqDiff, ↓reduceIte, Nat.reduceAdd, Nat.reduceSub])
  refine' aqAnd' [_, _] [20,21] rfl rfl rfl rfl rfl rfl rfl rfl rfl rfl rfl rfl (fun hb => ?_) ?_; rotate_left
  ·
   (try simp only [hcS] at hb)
   refine aqP (op_move rfl rfl) ?_; (try simp only [nA, Nat.reduceBEq, Nat.reduceEqDiff, ↓reduceIte, Nat.reduceAdd, Nat.reduceSub])
   refine aqP (op_geq rfl rfl rfl) ?_; (try simp only [nA, Nat.reduceBEq, Nat.reduceEqDiff, ↓reduceIte, Nat.reduceAdd, Nat.reduceSub])
   (refine aqSeg rfl rfl rfl ?_; repeat (first | exact fun _ _ => rfl | refine upd_out rfl ?_ | refine era_out rfl ?_))
  (try simp only [nA, Nat.reduceBEq, Nat.reduceEqDiff, ↓reduceIte, Nat.reduceAdd, Nat.reduceSub])
  refine aqP (op_assign rfl rfl) ?_; (try simp only [nA, Nat.reduceBEq, Nat.reduceEqDiff, ↓reduceIte, Nat.reduceAdd, Nat.reduceSub])
  refine aqP (op_assign rfl rfl) ?_; (try simp only [nA, Nat.reduceBEq, Nat.reduceEqDiff, ↓reduceIte, Nat.reduceAdd, Nat.reduceSub])
  refine aqP (op_assign rfl rfl) ?_; (try simp only [nA, Nat.reduceBEq, Nat.reduceEqDiff, ↓reduceIte, Nat.reduceAdd, Nat.reduceSub])
  refine AQ.nil ?_
  (refine hK _ ?_; clear hK K; (try simp only [nA, Nat.reduceBEq, Nat.reduceEqDiff, ↓reduceIte, Nat.reduceAdd, Nat.reduceSub]))
  skip
  refine AW.ret ?_; (try simp only [thenE, inBlk, Nat.reduceEqDiff, ↓reduceIte]); exact RQ.of0 rfl (.tmp (Nat.le_of_ble_eq_true rfl) rfl rfl (.tmp (Nat.le_of_ble_eq_true rfl) rfl rfl (.tmp (Nat.le_of_ble_eq_true rfl) rfl rfl .nil)))
theorem erase_filter {l : List Plate} {p : Plate} (hp : p ∈ l) (hc : l.count p ≤ 1) : l.eraseIdx (posL l p) = l.filter (notP p) := by
  induction l with
  | nil => cases hp
  | cons q l ih =>
    by_cases hq : q = p
    · subst hq
      rw [List.count_cons_self] at hc
      have hn : q ∉ l := fun h => by have := List.count_pos_iff.2 h; omega
      have h0 : posL (q :: l) q = 0 := by unfold posL; rw [List.findIdx_cons]; simp
      rw [h0, List.eraseIdx_cons_zero]
      have : l.filter (notP q) = l := List.filter_eq_self.2 fun x hx => by
        have : x ≠ q := fun e => hn (e ▸ hx)
        simp [this]
      simp [this]
    · have hl : p ∈ l := (List.mem_cons.1 hp).resolve_left fun e => hq e.symm
      rw [List.count_cons_of_ne hq] at hc
      have h1 : posL (q :: l) p = posL l p + 1 := by unfold posL; rw [List.findIdx_cons]; simp [hq]
      rw [h1, List.eraseIdx_cons_succ, ih hl hc]
      simp [hq]
theorem fz_set {xs : List Cart} {i : Nat} {R : List AV} {c' : Cart} (h : R.map fz1 = c'.av) : ((xs.map oav).set i R).map (·.map fz1) = (xs.set i c').map Cart.av := by
  rw [List.map_set, oav_fz, List.map_set, h]
theorem flat2_set {xs : List Cart} {i : Nat} {R : List AV} (h : ∀ c ∈ R, flat2 c) : ∀ r ∈ (xs.map oav).set i R, ∀ c ∈ r, flat2 c := fun r hr => by
  rcases List.mem_or_eq_of_mem_set hr with h1 | h1
  · exact oav_flat2 xs r h1
  · subst h1; exact h
theorem cav_flat2 (c : Cart) : ∀ x ∈ c.av, flat2 x := fun x hx => .inl (cav_flat [c] _ (by simp) x hx)
theorem count_le {xs : List Cart} (h : Inv xs) {c : Cart} (hc : c ∈ xs) (p : Plate) : c.plates.count p ≤ 1 := by
  have h1 := h.cnt p
  have h2 : ∀ {xs : List Cart}, c ∈ xs → c.plates.count p ≤ countV xs p := fun {xs} => by
    induction xs with
    | nil => intro h; cases h
    | cons d xs ih =>
      intro hc
      rw [countV_cons]
      rcases List.mem_cons.1 hc with rfl | hc
      · omega
      · have := ih hc; omega
  exact Nat.le_trans (h2 hc) h1
set_option maxHeartbeats 4000000 in
theorem C25 {xs : List Cart} {p : Plate} (hx : xs.length ≤ 1000) (hb : ∀ c ∈ xs, c.plates.length ≤ 1000) : Fn Try.prog 25 [] [.ro (xs.map Cart.av), .agg p.av] [.ro ((takeV xs p).1.map Cart.av), .v (.int .i64 (takeV xs p).2)] [] := by
  refine Spec.body Try.func25 rfl Try.ntmps25 (by simp) rfl ?_; intro S0 own0 v0 w0
  (refine AW.seq_k ?_; intro K hK)
  refine AW.region ?_
  refine awJ (op_box rfl rfl rfl sz25 rfl) ?_; (try simp only [nA, Nat.reduceBEq, Nat.reduceEqDiff, ↓reduceIte, Nat.reduceAdd, Nat.reduceSub])
  refine awP (op_assign rfl rfl) ?_; (try simp only [nA, Nat.reduceBEq, Nat.reduceEqDiff, ↓reduceIte, Nat.reduceAdd, Nat.reduceSub])
  refine awP (op_assign rfl rfl) ?_; (try simp only [nA, Nat.reduceBEq, Nat.reduceEqDiff, ↓reduceIte, Nat.reduceAdd, Nat.reduceSub])
  refine AWL.nil ?_
  (refine hK _ ?_; clear hK K; (try simp only [nA, Nat.reduceBEq, Nat.reduceEqDiff, ↓reduceIte, Nat.reduceAdd, Nat.reduceSub]))
  (refine AW.seq_k ?_; intro K hK)
  (refine AW.seq_k ?_; intro K hK)
  refine AW.region ?_
  refine awP (op_move rfl rfl) ?_; (try simp only [nA, Nat.reduceBEq, Nat.reduceEqDiff, ↓reduceIte, Nat.reduceAdd, Nat.reduceSub])
  refine awJ (OpQ.j (op_callQ (b := true) rfl en14 (C14 (xs := xs) (by omega)) (RL.cons (by first | exact View.same rfl | exact View.nil | exact View.rof | exact View.src .ro | exact View.src .rof | exact View.src (.sl rfl rfl) | exact View.ptr rfl rfl rfl) (RL.nil)) rfl)) ?_; (try simp only [nA, Nat.reduceBEq, Nat.reduceEqDiff, ↓reduceIte, Nat.reduceAdd, Nat.reduceSub])
  refine awP (op_assign rfl rfl) ?_; (try simp only [nA, Nat.reduceBEq, Nat.reduceEqDiff, ↓reduceIte, Nat.reduceAdd, Nat.reduceSub])
  refine AWL.nil ?_
  (refine hK _ ?_; clear hK K; (try simp only [nA, Nat.reduceBEq, Nat.reduceEqDiff, ↓reduceIte, Nat.reduceAdd, Nat.reduceSub]))
  (refine AW.seq_k ?_; intro K hK)
  refine AW.region ?_
  refine awP (op_move rfl rfl) ?_; (try simp only [nA, Nat.reduceBEq, Nat.reduceEqDiff, ↓reduceIte, Nat.reduceAdd, Nat.reduceSub])
  (first | refine awP (op_neq rfl rfl rfl) ?_ | refine awP (op_sneq rfl rfl rfl) ?_); (try simp only [nA, Nat.reduceBEq, Nat.reduceEqDiff, ↓reduceIte, Nat.reduceAdd, Nat.reduceSub])
  refine AWL.nil ?_
  (refine hK _ ?_; clear hK K; (try simp only [nA, Nat.reduceBEq, Nat.reduceEqDiff, ↓reduceIte, Nat.reduceAdd, Nat.reduceSub]))
  refine AW.cond rfl rfl rfl (fun hc => ?_) (fun hc => ?_)
  ·
   (try simp only [hcS] at hc); have hc1 := hc; skip
   (refine AW.seq_k ?_; intro K hK)
   refine AW.region ?_
   refine awP (op_move rfl rfl) ?_; (try simp only [nA, Nat.reduceBEq, Nat.reduceEqDiff, ↓reduceIte, Nat.reduceAdd, Nat.reduceSub])
   refine awP (op_assign rfl rfl) ?_; (try simp only [nA, Nat.reduceBEq, Nat.reduceEqDiff, ↓reduceIte, Nat.reduceAdd, Nat.reduceSub])
   refine awP (op_assign rfl rfl) ?_; (try simp only [nA, Nat.reduceBEq, Nat.reduceEqDiff, ↓reduceIte, Nat.reduceAdd, Nat.reduceSub])
   refine AWL.nil ?_
   (refine hK _ ?_; clear hK K; (try simp only [nA, Nat.reduceBEq, Nat.reduceEqDiff, ↓reduceIte, Nat.reduceAdd, Nat.reduceSub]))
   refine AW.gh (Gh.nil (e := 48) 4 (Nat.le_of_ble_eq_true rfl) rfl sz48) ?_; (try simp only [nA, Nat.reduceBEq, Nat.reduceEqDiff, ↓reduceIte, Nat.reduceAdd, Nat.reduceSub]); refine AW.gh (Gh.freeze 4 (Nat.le_of_ble_eq_true rfl) rfl rfl (by simp) (es' := ([] : List Cart).map Cart.av) rfl) ?_; (try simp only [nA, Nat.reduceBEq, Nat.reduceEqDiff, ↓reduceIte, Nat.reduceAdd, Nat.reduceSub])
   refine AW.ret ?_; (try simp only [thenE, inBlk, Nat.reduceEqDiff, ↓reduceIte]); rw [show takeV xs p = ([], chkL xs) by unfold takeV; rw [if_pos (by simpa using hc)]]; exact RQ.of0 rfl (.tmp (Nat.le_of_ble_eq_true rfl) rfl rfl (.tmp (Nat.le_of_ble_eq_true rfl) rfl rfl .nil))
  ·
   (try simp only [hcS] at hc); have hc1 := hc; have h0 : ¬ chkL xs ≠ 0 := (by simpa using hc1); have hinv := chkL_iff.1 (by simpa using hc1)
   refine AW.skip ?_
   (refine hK _ ?_; clear hK K; (try simp only [nA, Nat.reduceBEq, Nat.reduceEqDiff, ↓reduceIte, Nat.reduceAdd, Nat.reduceSub]))
   (refine AW.seq_k ?_; intro K hK)
   refine AW.region ?_
   refine awP (op_move rfl rfl) ?_; (try simp only [nA, Nat.reduceBEq, Nat.reduceEqDiff, ↓reduceIte, Nat.reduceAdd, Nat.reduceSub])
   (first | refine awR (op_load_ptr rfl rfl rfl rfl ag25 sz25 (Nat.le_of_ble_eq_true rfl) rfl) ?_ | refine awR (op_load_rop rfl rfl ag25 sz25 (Nat.le_of_ble_eq_true rfl) (by decide) rfl) ?_); (try simp only [nA, Nat.reduceBEq, Nat.reduceEqDiff, ↓reduceIte, Nat.reduceAdd, Nat.reduceSub])
   refine awJ (op_call (b := false) rfl en42 (C42 (xs := xs) (p := p)) (RL.cons (by first | exact View.same rfl | exact View.nil | exact View.rof | exact View.src .ro | exact View.src .rof | exact View.src (.sl rfl rfl) | exact View.ptr rfl rfl rfl) (RL.cons (by first | exact View.same rfl | exact View.nil | exact View.rof | exact View.src .ro | exact View.src .rof | exact View.src (.sl rfl rfl) | exact View.ptr rfl rfl rfl) (RL.nil))) rfl (fun h => by cases h) rfl rfl) ?_; (try simp only [nA, Nat.reduceBEq, Nat.reduceEqDiff, ↓reduceIte, Nat.reduceAdd, Nat.reduceSub])
   refine awP (op_move rfl rfl) ?_; (try simp only [nA, Nat.reduceBEq, Nat.reduceEqDiff, ↓reduceIte, Nat.reduceAdd, Nat.reduceSub])
   refine awP (op_extract rfl rfl rfl) ?_; (try simp only [nA, Nat.reduceBEq, Nat.reduceEqDiff, ↓reduceIte, Nat.reduceAdd, Nat.reduceSub])
   refine awP (op_extract rfl rfl rfl) ?_; (try simp only [nA, Nat.reduceBEq, Nat.reduceEqDiff, ↓reduceIte, Nat.reduceAdd, Nat.reduceSub])
   refine awP (op_assign rfl rfl) ?_; (try simp only [nA, Nat.reduceBEq, Nat.reduceEqDiff, ↓reduceIte, Nat.reduceAdd, Nat.reduceSub])
   refine awP (op_assign rfl rfl) ?_; (try simp only [nA, Nat.reduceBEq, Nat.reduceEqDiff, ↓reduceIte, Nat.reduceAdd, Nat.reduceSub])
   refine AWL.nil ?_
   (refine hK _ ?_; clear hK K; (try simp only [nA, Nat.reduceBEq, Nat.reduceEqDiff, ↓reduceIte, Nat.reduceAdd, Nat.reduceSub]))
   (refine AW.seq_k ?_; intro K hK)
   (refine AW.seq_k ?_; intro K hK)
   refine AW.region ?_
   refine awP (op_move rfl rfl) ?_; (try simp only [nA, Nat.reduceBEq, Nat.reduceEqDiff, ↓reduceIte, Nat.reduceAdd, Nat.reduceSub])
   refine awP (op_lss rfl rfl rfl) ?_; (try simp only [nA, Nat.reduceBEq, Nat.reduceEqDiff, ↓reduceIte, Nat.reduceAdd, Nat.reduceSub])
   refine AWL.nil ?_
   (refine hK _ ?_; clear hK K; (try simp only [nA, Nat.reduceBEq, Nat.reduceEqDiff, ↓reduceIte, Nat.reduceAdd, Nat.reduceSub]))
   refine AW.cond rfl rfl rfl (fun hc => ?_) (fun hc => ?_)
   ·
    (try simp only [hcS] at hc); have hc2 := hc; skip
    (refine AW.seq_k ?_; intro K hK)
    refine AW.region ?_
    refine awP (op_assign rfl rfl) ?_; (try simp only [nA, Nat.reduceBEq, Nat.reduceEqDiff, ↓reduceIte, Nat.reduceAdd, Nat.reduceSub])
    refine awP (op_assign rfl rfl) ?_; (try simp only [nA, Nat.reduceBEq, Nat.reduceEqDiff, ↓reduceIte, Nat.reduceAdd, Nat.reduceSub])
    refine AWL.nil ?_
    (refine hK _ ?_; clear hK K; (try simp only [nA, Nat.reduceBEq, Nat.reduceEqDiff, ↓reduceIte, Nat.reduceAdd, Nat.reduceSub]))
    refine AW.gh (Gh.nil (e := 48) 4 (Nat.le_of_ble_eq_true rfl) rfl sz48) ?_; (try simp only [nA, Nat.reduceBEq, Nat.reduceEqDiff, ↓reduceIte, Nat.reduceAdd, Nat.reduceSub]); refine AW.gh (Gh.freeze 4 (Nat.le_of_ble_eq_true rfl) rfl rfl (by simp) (es' := ([] : List Cart).map Cart.av) rfl) ?_; (try simp only [nA, Nat.reduceBEq, Nat.reduceEqDiff, ↓reduceIte, Nat.reduceAdd, Nat.reduceSub])
    refine AW.ret ?_; (try simp only [thenE, inBlk, Nat.reduceEqDiff, ↓reduceIte]); rw [show takeV xs p = ([], 6) by unfold takeV; rw [if_neg h0, if_pos (by cases hf : (findV xs p).2; rfl; (have := onN_lt.2 (findV_snd.1 hf); unfold onV at hc; rw [if_pos this] at hc; simp at hc; omega))]]; exact RQ.of0 rfl (.tmp (Nat.le_of_ble_eq_true rfl) rfl rfl (.tmp (Nat.le_of_ble_eq_true rfl) rfl rfl .nil))
   ·
    (try simp only [hcS] at hc); have hc2 := hc; have hlt : onN xs p < xs.length := (by rcases Nat.lt_or_ge (onN xs p) xs.length with h | h; exact h; exfalso; unfold onV at hc2; rw [if_neg (by omega)] at hc2; simp at hc2); have h1 : ¬ (findV xs p).2 = false := (by rw [findV_snd.2 (onN_lt.1 hlt)]; simp); have ho : onV xs p = (((onN xs p : Nat) : Int), ((posL (xs.getD (onN xs p) default).plates p : Nat) : Int)) := (by unfold onV; rw [if_pos hlt]); rw [ho]; have hmem : p ∈ (xs.getD (onN xs p) default).plates := (by have := List.findIdx_getElem (xs := xs) (p := hasP p) (w := hlt); rw [List.getD_eq_getElem?_getD, List.getElem?_eq_getElem hlt]; exact of_decide_eq_true this); obtain ⟨c, hci⟩ : ∃ c, xs[onN xs p]? = some c := ⟨xs[onN xs p], List.getElem?_eq_getElem hlt⟩; rw [get_d hci] at hmem ⊢; have hcm := List.mem_of_getElem? hci; have hcl := hb c hcm; have hcc := count_le hinv hcm p; have hk := posL_mem.2 hmem; have hef := erase_filter hmem hcc; have hdc := get_d hci; generalize hi : onN xs p = i at *; generalize posL c.plates p = k at *
    refine AW.skip ?_
    (refine hK _ ?_; clear hK K; (try simp only [nA, Nat.reduceBEq, Nat.reduceEqDiff, ↓reduceIte, Nat.reduceAdd, Nat.reduceSub]))
    (refine AW.seq_k ?_; intro K hK)
    (refine AW.seq_k ?_; intro K hK)
    refine AW.region ?_
    refine awP (op_move rfl rfl) ?_; (try simp only [nA, Nat.reduceBEq, Nat.reduceEqDiff, ↓reduceIte, Nat.reduceAdd, Nat.reduceSub])
    refine awP (op_move rfl rfl) ?_; (try simp only [nA, Nat.reduceBEq, Nat.reduceEqDiff, ↓reduceIte, Nat.reduceAdd, Nat.reduceSub])
    refine awP (op_ia_ro i rfl (.inl rfl) rfl Try.underlying22 rfl (get_of hci) (by exact sz48) (Nat.le_of_ble_eq_true rfl)) ?_; (try simp only [nA, Nat.reduceBEq, Nat.reduceEqDiff, ↓reduceIte, Nat.reduceAdd, Nat.reduceSub])
    (first | refine awP (op_fa_ptr rfl rfl rfl fl48_5 (by exact sz4) (by decide) rfl) ?_ | refine awP (op_fa_rop rfl rfl fl48_5 (by exact sz4) (by decide) (Nat.le_of_ble_eq_true rfl) rfl) ?_); (try simp only [nA, Nat.reduceBEq, Nat.reduceEqDiff, ↓reduceIte, Nat.reduceAdd, Nat.reduceSub])
    (first | refine awR (op_load_ptr1 rfl rfl rfl rfl ag4 rfl rfl) ?_ | refine awR (op_load_rop1 rfl rfl ag4) ?_); (try simp only [nA, Nat.reduceBEq, Nat.reduceEqDiff, ↓reduceIte, Nat.reduceAdd, Nat.reduceSub])
    refine AWL.nil ?_
    (refine hK _ ?_; clear hK K; (try simp only [nA, Nat.reduceBEq, Nat.reduceEqDiff, ↓reduceIte, Nat.reduceAdd, Nat.reduceSub]))
    refine AW.cond rfl rfl rfl (fun hc => ?_) (fun hc => ?_)
    ·
     (try simp only [hcS] at hc); have hc3 := hc; skip
     (refine AW.seq_k ?_; intro K hK)
     refine AW.region ?_
     refine awP (op_assign rfl rfl) ?_; (try simp only [nA, Nat.reduceBEq, Nat.reduceEqDiff, ↓reduceIte, Nat.reduceAdd, Nat.reduceSub])
     refine awP (op_assign rfl rfl) ?_; (try simp only [nA, Nat.reduceBEq, Nat.reduceEqDiff, ↓reduceIte, Nat.reduceAdd, Nat.reduceSub])
     refine AWL.nil ?_
     (refine hK _ ?_; clear hK K; (try simp only [nA, Nat.reduceBEq, Nat.reduceEqDiff, ↓reduceIte, Nat.reduceAdd, Nat.reduceSub]))
     refine AW.gh (Gh.nil (e := 48) 4 (Nat.le_of_ble_eq_true rfl) rfl sz48) ?_; (try simp only [nA, Nat.reduceBEq, Nat.reduceEqDiff, ↓reduceIte, Nat.reduceAdd, Nat.reduceSub]); refine AW.gh (Gh.freeze 4 (Nat.le_of_ble_eq_true rfl) rfl rfl (by simp) (es' := ([] : List Cart).map Cart.av) rfl) ?_; (try simp only [nA, Nat.reduceBEq, Nat.reduceEqDiff, ↓reduceIte, Nat.reduceAdd, Nat.reduceSub])
     refine AW.ret ?_; (try simp only [thenE, inBlk, Nat.reduceEqDiff, ↓reduceIte]); rw [show takeV xs p = ([], 7) by unfold takeV; rw [if_neg h0, if_neg h1, hi, hdc, if_pos (by simpa using hc)]]; exact RQ.of0 rfl (.tmp (Nat.le_of_ble_eq_true rfl) rfl rfl (.tmp (Nat.le_of_ble_eq_true rfl) rfl rfl .nil))
    ·
     (try simp only [hcS] at hc); have hc3 := hc; skip
     refine AW.skip ?_
     (refine hK _ ?_; clear hK K; (try simp only [nA, Nat.reduceBEq, Nat.reduceEqDiff, ↓reduceIte, Nat.reduceAdd, Nat.reduceSub]))
     (refine AW.seq_k ?_; intro K hK)
     refine AW.region ?_
     refine awP (op_move rfl rfl) ?_; (try simp only [nA, Nat.reduceBEq, Nat.reduceEqDiff, ↓reduceIte, Nat.reduceAdd, Nat.reduceSub])
     refine awJ (op_call (b := false) rfl en46 (C46 (xs := xs) (by omega) (fun c hc => Nat.le_trans (hb c hc) (by omega))) (RL.cons (by first | exact View.same rfl | exact View.nil | exact View.rof | exact View.src .ro | exact View.src .rof | exact View.src (.sl rfl rfl) | exact View.ptr rfl rfl rfl) (RL.nil)) rfl (fun h => by cases h) rfl rfl) ?_; (try simp only [nA, Nat.reduceBEq, Nat.reduceEqDiff, ↓reduceIte, Nat.reduceAdd, Nat.reduceSub])
     refine awP (op_assign rfl rfl) ?_; (try simp only [nA, Nat.reduceBEq, Nat.reduceEqDiff, ↓reduceIte, Nat.reduceAdd, Nat.reduceSub])
     refine AWL.nil ?_
     (refine hK _ ?_; clear hK K; (try simp only [nA, Nat.reduceBEq, Nat.reduceEqDiff, ↓reduceIte, Nat.reduceAdd, Nat.reduceSub]))
     (refine AW.seq_k ?_; intro K hK)
     refine AW.region ?_
     refine awP (op_move rfl rfl) ?_; (try simp only [nA, Nat.reduceBEq, Nat.reduceEqDiff, ↓reduceIte, Nat.reduceAdd, Nat.reduceSub])
     refine awP (op_move rfl rfl) ?_; (try simp only [nA, Nat.reduceBEq, Nat.reduceEqDiff, ↓reduceIte, Nat.reduceAdd, Nat.reduceSub])
     refine awP (op_move rfl rfl) ?_; (try simp only [nA, Nat.reduceBEq, Nat.reduceEqDiff, ↓reduceIte, Nat.reduceAdd, Nat.reduceSub])
     refine awP (op_move rfl rfl) ?_; (try simp only [nA, Nat.reduceBEq, Nat.reduceEqDiff, ↓reduceIte, Nat.reduceAdd, Nat.reduceSub])
     refine awP (op_ia_sl i 9 rfl rfl rfl rfl Try.underlying22 rfl hlt (by exact sz48) (Nat.zero_add _)) ?_; (try simp only [nA, Nat.reduceBEq, Nat.reduceEqDiff, ↓reduceIte, Nat.reduceAdd, Nat.reduceSub])
     (first | refine awP (op_fa_ptr rfl rfl rfl fl48_4 (by exact sz35) (by decide) rfl) ?_ | refine awP (op_fa_rop rfl rfl fl48_4 (by exact sz35) (by decide) (Nat.le_of_ble_eq_true rfl) rfl) ?_); (try simp only [nA, Nat.reduceBEq, Nat.reduceEqDiff, ↓reduceIte, Nat.reduceAdd, Nat.reduceSub])
     refine awJ (op_load_nest (i := i) (j := 7) (row := oav c) rfl rfl rfl (get_of (f := oav) hci) ag35 rfl rfl) ?_; (try simp only [nA, Nat.reduceBEq, Nat.reduceEqDiff, ↓reduceIte, Nat.reduceAdd, Nat.reduceSub])
     refine awP (op_move rfl rfl) ?_; (try simp only [nA, Nat.reduceBEq, Nat.reduceEqDiff, ↓reduceIte, Nat.reduceAdd, Nat.reduceSub])
     refine awP (op_move rfl rfl) ?_; (try simp only [nA, Nat.reduceBEq, Nat.reduceEqDiff, ↓reduceIte, Nat.reduceAdd, Nat.reduceSub])
     (first | refine awP (op_addi rfl rfl rfl (by omega)) ?_ | refine awP (op_add rfl rfl rfl rfl) ?_); (try simp only [nA, Nat.reduceBEq, Nat.reduceEqDiff, ↓reduceIte, Nat.reduceAdd, Nat.reduceSub])
     refine awJ (op_call1 (r := 2) rfl en48 (C48 (l := c.plates) (k := k) hk (by omega)) (by exact rfl) (RL.cons .sl (RL.cons (.base (by first | exact View.same rfl | exact View.nil | exact View.rof | exact View.src .ro | exact View.src .rof | exact View.src (.sl rfl rfl) | exact View.ptr rfl rfl rfl)) (RL.cons (.base (by first | exact View.same rfl | exact View.nil | exact View.rof | exact View.src .ro | exact View.src .rof | exact View.src (.sl rfl rfl) | exact View.ptr rfl rfl rfl)) RL.nil))) (by exact ⟨_, _, _, rfl, rfl, by simp [List.length_eraseIdx, hk]; omega⟩) (by exact rfl) (by exact rfl) (by exact rfl)) ?_; (try simp only [nA, Nat.reduceBEq, Nat.reduceEqDiff, ↓reduceIte, Nat.reduceAdd, Nat.reduceSub]); refine AWL.gh (Gh.freeze 40 (Nat.le_of_ble_eq_true rfl) rfl rfl (pav_flat _) (es' := (c.plates.eraseIdx k).map Plate.av) (by rw [← List.map_take, List.take_append_of_le_length (by rw [List.length_eraseIdx]; simp [hk]), List.take_of_length_le (by rw [List.length_eraseIdx]; simp [hk])])) ?_; (try simp only [nA, Nat.reduceBEq, Nat.reduceEqDiff, ↓reduceIte, Nat.reduceAdd, Nat.reduceSub])
     refine awP (op_ia_sl i 9 rfl rfl rfl rfl Try.underlying22 rfl (by simp [hlt]) (by exact sz48) (Nat.zero_add _)) ?_; (try simp only [nA, Nat.reduceBEq, Nat.reduceEqDiff, ↓reduceIte, Nat.reduceAdd, Nat.reduceSub])
     (first | refine awP (op_fa_ptr rfl rfl rfl fl48_4 (by exact sz35) (by decide) rfl) ?_ | refine awP (op_fa_rop rfl rfl fl48_4 (by exact sz35) (by decide) (Nat.le_of_ble_eq_true rfl) rfl) ?_); (try simp only [nA, Nat.reduceBEq, Nat.reduceEqDiff, ↓reduceIte, Nat.reduceAdd, Nat.reduceSub])
     refine awJ (op_store (row := ((oav c).set 7 (.sln (c.plates.map Plate.av).length))) rfl rfl rfl rfl (by simp [hlt]) rfl sz35 rfl (Nat.le_of_ble_eq_true rfl) (es' := (xs.map oav).set i (delP c p).av) (by rw [List.set_set, hef]; rfl)) ?_; (try simp only [nA, Nat.reduceBEq, Nat.reduceEqDiff, ↓reduceIte, Nat.reduceAdd, Nat.reduceSub])
     refine AWL.nil ?_
     (refine hK _ ?_; clear hK K; (try simp only [nA, Nat.reduceBEq, Nat.reduceEqDiff, ↓reduceIte, Nat.reduceAdd, Nat.reduceSub]))
     (refine AW.seq_k ?_; intro K hK)
     refine AW.region ?_
     refine awP (op_move rfl rfl) ?_; (try simp only [nA, Nat.reduceBEq, Nat.reduceEqDiff, ↓reduceIte, Nat.reduceAdd, Nat.reduceSub])
     refine awP (op_assign rfl rfl) ?_; (try simp only [nA, Nat.reduceBEq, Nat.reduceEqDiff, ↓reduceIte, Nat.reduceAdd, Nat.reduceSub])
     refine awP (op_assign rfl rfl) ?_; (try simp only [nA, Nat.reduceBEq, Nat.reduceEqDiff, ↓reduceIte, Nat.reduceAdd, Nat.reduceSub])
     refine AWL.nil ?_
     (refine hK _ ?_; clear hK K; (try simp only [nA, Nat.reduceBEq, Nat.reduceEqDiff, ↓reduceIte, Nat.reduceAdd, Nat.reduceSub]))
     refine AW.gh (Gh.freezeN 4 (Nat.le_of_ble_eq_true rfl) rfl rfl (flat2_set (cav_flat2 _)) (es' := (xs.set i (delP c p)).map Cart.av) (by rw [List.take_of_length_le (by simp)]; exact fz_set rfl)) ?_; (try simp only [nA, Nat.reduceBEq, Nat.reduceEqDiff, ↓reduceIte, Nat.reduceAdd, Nat.reduceSub])
     refine AW.ret ?_; (try simp only [thenE, inBlk, Nat.reduceEqDiff, ↓reduceIte]); rw [show takeV xs p = (xs.set i (delP c p), 0) by unfold takeV; rw [if_neg h0, if_neg h1, hi, hdc, if_neg (by simpa using hc3)]]; exact RQ.of0 rfl (.tmp (Nat.le_of_ble_eq_true rfl) rfl rfl (.tmp (Nat.le_of_ble_eq_true rfl) rfl rfl .nil))
end Go.Proofs.Ytbbedhidiffdgaa
