import Derived.Test.YtjgbbffcjbmjmaaFn
namespace Go.Proofs.Ytjgbbffcjbmjmaa
open Go.RowKit
set_option linter.unusedSimpArgs false
set_option linter.unusedVariables false

theorem St.shapeA {C : Cx} {σ : Sta} {a : Act} {w : World} (hs : St C σ a w) {r k : Nat} {u : Value} {e : TypeId} {es : List (List AV)} (hT : σ.T.slots[r]? = some (k, .nm u e es)) : ∃ A c, u = .slice A es.length c ∧ (0 < es.length → ∃ g : Nat, A = some ⟨g, 0, none⟩) := by
  obtain ⟨hd, hn, S, vals, bss, hm, he⟩ := hs
  obtain ⟨v, bs, hv, hb, hrep⟩ := hm.slot hT
  obtain ⟨rfl, hr⟩ := hrep.nm_inv
  obtain ⟨us, sz, bss, -, -, -, hown, -⟩ := hr.own_inv
  rcases hown.2 with ⟨h1, h0'⟩ | ⟨g, cap, cur, h1, -, -, -, -, -⟩
  · exact ⟨none, 0, by rw [h1, h0'], fun h => by omega⟩
  · exact ⟨some ⟨g, 0, none⟩, cap, h1, fun _ => ⟨g, rfl⟩⟩
theorem sco_le {a b : Desc} : sco a b ≤ 890 := by
  have q1 := @agr_bd1 a.col b.col
  have q2 := @agr_bd2 a.typ b.typ
  have q3 := patS_bd (a := a.pat) (b := b.pat) 10
  have q6 : patV a.pat b.pat ≤ 400 := by unfold patV; split <;> omega
  have q4 := feaS_bd (f := a.fea) (g := b.fea) 8
  have q5 : porV a.port b.port ≤ 50 := by unfold porV; split <;> omega
  unfold sco
  omega
theorem scoreF_bd {a b : Desc} : 0 ≤ scoreF a b ∧ scoreF a b ≤ 890 := by
  have := @sco_le a b
  unfold scoreF
  split <;> omega
section
variable {x y : List Desc}
theorem scD_bd (i k : Nat) : 0 ≤ scD x y i k ∧ scD x y i k ≤ 890 := scoreF_bd
theorem sq_wok : WOk (sqW x y).length 890 (sqW x y) := sqF_ok (by omega) scD_bd
theorem sq_bd (i k : Nat) : 0 ≤ gI ((sqW x y).getD i default) k ∧ gI ((sqW x y).getD i default) k ≤ 890 := by
  by_cases hi : i < max x.length y.length
  · by_cases hk : k < max x.length y.length
    · rw [sqF_at hi hk]
      split
      · exact scD_bd i k
      · omega
    · have : gI ((sqW x y).getD i default) k = 0 := by
        show List.getD _ _ _ = _
        rw [List.getD_eq_getElem?_getD, List.getElem?_eq_none (by rw [sqF_row hi]; simp; omega)]
        rfl
      rw [this]; omega
  · have : gI ((sqW x y).getD i default) k = 0 := by
      rw [show (sqW x y).getD i default = default by rw [List.getD_eq_getElem?_getD, List.getElem?_eq_none (by rw [sqF_len]; exact Nat.not_lt.1 hi)]; rfl]
      rfl
    rw [this]; omega
/-- the pairs found so far -/
def pfs (x y : List Desc) (j : Nat) : List Int × Int := (List.range j).foldl (pstep x.length (sqW x y) (asgF (sqW x y)).1) (List.replicate x.length (-1), 0)
theorem pfs_succ {j : Nat} : pfs x y (j + 1) = pstep x.length (sqW x y) (asgF (sqW x y)).1 (pfs x y j) j := by
  unfold pfs
  rw [List.range_succ, List.foldl_append]
  rfl
theorem pfs_yes {j : Nat} (h : gI (asgF (sqW x y)).1 j < x.length ∧ 0 < gI ((sqW x y).getD (gI (asgF (sqW x y)).1 j).toNat default) j) : pfs x y (j + 1) = ((pfs x y j).1.set (gI (asgF (sqW x y)).1 j).toNat j, (pfs x y j).2 + gI ((sqW x y).getD (gI (asgF (sqW x y)).1 j).toNat default) j) := by
  rw [pfs_succ]
  unfold pstep
  rw [if_pos h]
theorem pfs_no {j : Nat} (h : ¬ (gI (asgF (sqW x y)).1 j < x.length ∧ 0 < gI ((sqW x y).getD (gI (asgF (sqW x y)).1 j).toNat default) j)) : pfs x y (j + 1) = pfs x y j := by
  rw [pfs_succ]
  unfold pstep
  rw [if_neg h]
theorem pfs_bd : ∀ j : Nat, (pfs x y j).1.length = x.length ∧ 0 ≤ (pfs x y j).2 ∧ (pfs x y j).2 ≤ 890 * j
  | 0 => ⟨by show (List.replicate x.length (-1)).length = _; simp, Int.le_refl _, Int.le_refl _⟩
  | j + 1 => by
    have h1 := pfs_bd j
    have h2 := sq_bd (x := x) (y := y) (gI (asgF (sqW x y)).1 j).toNat j
    by_cases h : gI (asgF (sqW x y)).1 j < x.length ∧ 0 < gI ((sqW x y).getD (gI (asgF (sqW x y)).1 j).toNat default) j
    · rw [pfs_yes h]
      exact ⟨by simp [h1.1], by dsimp only; omega, by dsimp only; omega⟩
    · rw [pfs_no h]
      exact ⟨h1.1, h1.2.1, by omega⟩
theorem sq_inv : PInv (max x.length y.length) 890 (sqW x y) (max x.length y.length) (asgF (sqW x y)).1 (asgF (sqW x y)).2.1 (asgF (sqW x y)).2.2 := by
  have h := asgF_inv (sq_wok (x := x) (y := y)) (by omega)
  rwa [sqF_len] at h
end
def Mat.av (m : Mat) : List AV := [.ro (m.pairs.map iv), .ro (m.rows.map iv), .ro (m.cols.map iv), .v (.int .i64 m.total)]
def matchF (x y : List Desc) : Mat := if errsF x y = 0 then matchM x.length y.length (scD x y) else ⟨[], [], [], 0⟩
theorem matchF_no {x y : List Desc} (h : ¬ errsF x y = 0) : matchF x y = ⟨[], [], [], 0⟩ := if_neg h
theorem matchF_ok {x y : List Desc} (h : errsF x y = 0) : matchF x y = ⟨(pfs x y y.length).1, (asgF (sqW x y)).2.1.take x.length, (asgF (sqW x y)).2.2.take y.length, (pfs x y y.length).2⟩ := if_pos h
theorem errs_len {x y : List Desc} (h : errsF x y = 0) : x.length ≤ 8 ∧ y.length ≤ 8 := by
  unfold errsF at h
  split at h
  · omega
  · omega
theorem C22 {x y : List Desc} (hx : Szs x) (hy : Szs y) : Fn Try.prog 22 [] [.ro (x.map Desc.av), .ro (y.map Desc.av)] [.agg (matchF x y).av, .v (.int .i64 (errsF x y))] [] := by
  refine Spec.body Try.func22 rfl Try.ntmps22 (by simp) rfl ?_; intro S0 own0 v0 w0
  (refine AW.seq_k ?_; intro K hK)
  refine AW.region ?_
  refine awJ (op_alloc rfl ze42 rfl) ?_; (try simp only [nA, Nat.reduceBEq, Nat.reduceEqDiff, ↓reduceIte, Nat.reduceAdd, Nat.reduceSub])
  refine awP (op_assign rfl rfl) ?_
  refine AWL.nil ?_
  (refine hK _ ?_; clear hK K; (try simp only [nA, Nat.reduceBEq, Nat.reduceEqDiff, ↓reduceIte, Nat.reduceAdd, Nat.reduceSub]))
  (refine AW.seq_k ?_; intro K hK)
  (refine AW.seq_k ?_; intro K hK)
  refine AW.region ?_
  refine awP (op_move rfl rfl) ?_
  refine awP (op_move rfl rfl) ?_
  refine awJ (OpQ.j (op_callQ (b := true) rfl en38 (C38 hx hy) (RL.cons (by first | exact View.same rfl | exact View.nil | exact View.rof | exact View.src .ro | exact View.src .rof | exact View.src (.sl rfl rfl) | exact View.ptr rfl rfl rfl) (RL.cons (by first | exact View.same rfl | exact View.nil | exact View.rof | exact View.src .ro | exact View.src .rof | exact View.src (.sl rfl rfl) | exact View.ptr rfl rfl rfl) (RL.nil))) rfl)) ?_; (try simp only [nA, Nat.reduceBEq, Nat.reduceEqDiff, ↓reduceIte, Nat.reduceAdd, Nat.reduceSub])
  refine awP (op_assign rfl rfl) ?_
  refine AWL.nil ?_
  (refine hK _ ?_; clear hK K; (try simp only [nA, Nat.reduceBEq, Nat.reduceEqDiff, ↓reduceIte, Nat.reduceAdd, Nat.reduceSub]))
  (refine AW.seq_k ?_; intro K hK)
  refine AW.region ?_
  refine awP (op_move rfl rfl) ?_
  (first | refine awP (op_neq rfl rfl rfl) ?_ | refine awP (op_sneq rfl rfl rfl) ?_)
  refine AWL.nil ?_
  (refine hK _ ?_; clear hK K; (try simp only [nA, Nat.reduceBEq, Nat.reduceEqDiff, ↓reduceIte, Nat.reduceAdd, Nat.reduceSub]))
  refine AW.cond rfl rfl rfl (fun hc => ?_) (fun hc => ?_)
  ·
   (try simp only [hcS] at hc); have hc1 := hc; skip
   (refine AW.seq_k ?_; intro K hK)
   refine AW.region ?_
   refine awP (op_build2 (xs := [.v (.slice none 0 0), .v (.slice none 0 0), .v (.slice none 0 0), .v (.int .i64 0)]) rfl pl42 ze42 [] rfl rfl rfl) ?_
   refine awP (op_move rfl rfl) ?_
   refine awJ (op_store rfl rfl rfl rfl rfl rfl sz42 rfl (Nat.le_of_ble_eq_true rfl) rfl) ?_; (try simp only [nA, Nat.reduceBEq, Nat.reduceEqDiff, ↓reduceIte, Nat.reduceAdd, Nat.reduceSub])
   refine awP (op_assign rfl rfl) ?_
   refine AWL.nil ?_
   (refine hK _ ?_; clear hK K; (try simp only [nA, Nat.reduceBEq, Nat.reduceEqDiff, ↓reduceIte, Nat.reduceAdd, Nat.reduceSub]))
   refine AW.gh (Gh.slot (r := 0) (es' := [[.ro [], .ro [], .ro [], .v (.int .i64 0)]]) rfl rfl ⟨rfl, fun i u x hu hx => by rcases i with _ | _ | _ | _ | i <;> simp at hu hx <;> subst hu <;> subst hx <;> first | exact .nil | exact .same⟩) ?_; (try simp only [nA, Nat.reduceBEq, Nat.reduceEqDiff, ↓reduceIte, Nat.reduceAdd, Nat.reduceSub])
   refine AW.ret ?_; (try simp only [thenE, inBlk, Nat.reduceEqDiff, ↓reduceIte]); rw [matchF_no (fun h => hc1 (by rw [h]))]; exact RQ.of0 rfl (.cell (Nat.le_of_ble_eq_true rfl) rfl rfl rfl ag42 sz42 (Nat.le_of_ble_eq_true rfl) rfl rfl (.tmp (Nat.le_of_ble_eq_true rfl) rfl rfl .nil))
  ·
   (try simp only [hcS] at hc); have hc1 := hc; have he0 : errsF x y = 0 := (by omega); have hl8 := errs_len he0; have hN : sqN x y = max x.length y.length := rfl; have hP := sq_inv (x := x) (y := y); have hrl := hP.rl; have hcl := hP.cl; have htl := hP.tl
   refine AW.skip ?_
   (refine hK _ ?_; clear hK K; (try simp only [nA, Nat.reduceBEq, Nat.reduceEqDiff, ↓reduceIte, Nat.reduceAdd, Nat.reduceSub]))
   (refine AW.seq_k ?_; intro K hK)
   refine AW.region ?_
   refine awP (op_move rfl rfl) ?_
   refine awP (op_move rfl rfl) ?_
   refine awJ (op_call (b := false) rfl en39 (C39 hx hy (by omega) (by omega)) (RL.cons (by first | exact View.same rfl | exact View.nil | exact View.rof | exact View.src .ro | exact View.src .rof | exact View.src (.sl rfl rfl) | exact View.ptr rfl rfl rfl) (RL.cons (by first | exact View.same rfl | exact View.nil | exact View.rof | exact View.src .ro | exact View.src .rof | exact View.src (.sl rfl rfl) | exact View.ptr rfl rfl rfl) (RL.nil))) rfl (fun h => by cases h) rfl rfl) ?_; (try simp only [nA, Nat.reduceBEq, Nat.reduceEqDiff, ↓reduceIte, Nat.reduceAdd, Nat.reduceSub])
   refine awP (op_assign rfl rfl) ?_
   refine AWL.nil ?_
   (refine hK _ ?_; clear hK K; (try simp only [nA, Nat.reduceBEq, Nat.reduceEqDiff, ↓reduceIte, Nat.reduceAdd, Nat.reduceSub]))
   (refine AW.seq_k ?_; intro K hK)
   refine AW.region ?_
   refine awP (op_move rfl rfl) ?_
   refine awJ (op_call (b := false) rfl en40 (C40 (W := sqW x y) (B := 890) sq_wok (by rw [sqF_len]; omega) (by omega) (by omega)) (RL.cons (by first | exact View.same rfl | exact View.nil | exact View.rof | exact View.src .ro | exact View.src .rof | exact View.src (.sl rfl rfl) | exact View.ptr rfl rfl rfl) (RL.nil)) rfl (fun h => by cases h) rfl rfl) ?_; (try simp only [nA, Nat.reduceBEq, Nat.reduceEqDiff, ↓reduceIte, Nat.reduceAdd, Nat.reduceSub])
   refine awP (op_move rfl rfl) ?_
   refine awP (op_extract rfl rfl rfl) ?_
   refine awP (op_extract rfl rfl rfl) ?_
   refine awP (op_extract rfl rfl rfl) ?_
   refine awP (op_assign rfl rfl) ?_
   refine awP (op_assign rfl rfl) ?_
   refine awP (op_assign rfl rfl) ?_
   refine AWL.nil ?_
   (refine hK _ ?_; clear hK K; (try simp only [nA, Nat.reduceBEq, Nat.reduceEqDiff, ↓reduceIte, Nat.reduceAdd, Nat.reduceSub]))
   refine AW.gh Gh.reserve ?_; refine AW.gh Gh.reserve ?_; (try simp only [nA, Nat.reduceBEq, Nat.reduceEqDiff, ↓reduceIte, Nat.reduceAdd, Nat.reduceSub])
   refine AW.join (ι := Value × Nat × Nat × Nat) (fun z => [(0, .ro (x.map Desc.av)), (1, .ro (y.map Desc.av)), (4, .ptr 0 1 0 0), (7, .ro ((sqW x y).map fun r => [.ro (r.map iv)])), (8, .ro ((asgF (sqW x y)).1.map iv)), (11, .ptr 2 z.2.2.1 0 0)]) (fun z => ⟨[(1, .own 42 [[.v (.slice none 0 0), .v (.slice none 0 0), .v (.slice none 0 0), .v (.int .i64 0)]]), (z.2.1, .nm z.1 3 (List.replicate x.length (iv 0))), (z.2.2.1, .own 42 [[.v z.1, .ro (((asgF (sqW x y)).2.1.take x.length).map iv), .ro (((asgF (sqW x y)).2.2.take y.length).map iv), .v (.int .i64 0)]])], z.2.2.2⟩) (fun z => True) ?_ ?_
   ·
     refine AW.ax (fun _ => True) mix rfl ?_
     refine axP 0 rfl (fun T' ok => op_move rfl rfl) trivial (by kernel_rfl) (by kernel_rfl) ?_; (try simp only [nA, Nat.reduceBEq, Nat.reduceEqDiff, ↓reduceIte, Nat.reduceAdd, Nat.reduceSub])
     refine axP 1 rfl (fun T' ok => op_len_ro rfl rfl Try.underlying22 (by first | exact .inr (.inl ⟨_, rfl, rfl⟩) | exact .inl rfl)) trivial (by kernel_rfl) (by kernel_rfl) ?_; (try simp only [nA, Nat.reduceBEq, Nat.reduceEqDiff, ↓reduceIte, Nat.reduceAdd, Nat.reduceSub])
     refine axP 3 rfl (fun T' ok => op_move rfl rfl) trivial (by kernel_rfl) (by kernel_rfl) ?_; (try simp only [nA, Nat.reduceBEq, Nat.reduceEqDiff, ↓reduceIte, Nat.reduceAdd, Nat.reduceSub])
     refine axP 4 rfl (fun T' ok => op_move rfl rfl) trivial (by kernel_rfl) (by kernel_rfl) ?_; (try simp only [nA, Nat.reduceBEq, Nat.reduceEqDiff, ↓reduceIte, Nat.reduceAdd, Nat.reduceSub])
     refine axP 5 rfl (fun T' ok => op_len_ro rfl rfl Try.underlying22 (by first | exact .inr (.inl ⟨_, rfl, rfl⟩) | exact .inl rfl)) trivial (by kernel_rfl) (by kernel_rfl) ?_; (try simp only [nA, Nat.reduceBEq, Nat.reduceEqDiff, ↓reduceIte, Nat.reduceAdd, Nat.reduceSub])
     refine axP 6 rfl (fun T' ok => op_slice_ro 0 x.length rfl (.inl rfl) (by exact rfl) (by exact ⟨_, rfl⟩) (by omega) (by rw [List.length_map]; omega) Try.underlying23 sz23 (iv_len _) (es' := ((asgF (sqW x y)).2.1.take x.length).map iv) (by simp [List.map_take])) trivial (by kernel_rfl) (by kernel_rfl) ?_; (try simp only [nA, Nat.reduceBEq, Nat.reduceEqDiff, ↓reduceIte, Nat.reduceAdd, Nat.reduceSub])
     refine axP 7 rfl (fun T' ok => op_move rfl rfl) trivial (by kernel_rfl) (by kernel_rfl) ?_; (try simp only [nA, Nat.reduceBEq, Nat.reduceEqDiff, ↓reduceIte, Nat.reduceAdd, Nat.reduceSub])
     refine axP 8 rfl (fun T' ok => op_move rfl rfl) trivial (by kernel_rfl) (by kernel_rfl) ?_; (try simp only [nA, Nat.reduceBEq, Nat.reduceEqDiff, ↓reduceIte, Nat.reduceAdd, Nat.reduceSub])
     refine axP 9 rfl (fun T' ok => op_len_ro rfl rfl Try.underlying22 (by first | exact .inr (.inl ⟨_, rfl, rfl⟩) | exact .inl rfl)) trivial (by kernel_rfl) (by kernel_rfl) ?_; (try simp only [nA, Nat.reduceBEq, Nat.reduceEqDiff, ↓reduceIte, Nat.reduceAdd, Nat.reduceSub])
     refine axP 10 rfl (fun T' ok => op_slice_ro 0 y.length rfl (.inl rfl) (by exact rfl) (by exact ⟨_, rfl⟩) (by omega) (by rw [List.length_map]; omega) Try.underlying23 sz23 (iv_len _) (es' := ((asgF (sqW x y)).2.2.take y.length).map iv) (by simp [List.map_take])) trivial (by kernel_rfl) (by kernel_rfl) ?_; (try simp only [nA, Nat.reduceBEq, Nat.reduceEqDiff, ↓reduceIte, Nat.reduceAdd, Nat.reduceSub])
     refine ax2 2 12 (by kernel_rfl) ?_ ?_
     ·
       refine AXi.mk (i := 2) rfl (OpJ.nmS (OpJ.at 1 rfl (op_make rfl rfl rfl rfl rfl (Nat.le_refl _) Try.underlying23 ze3 (by omega) (by decide) rfl) rfl) rfl (by simp)) ?_; rintro _ _ ⟨u, hu, rfl, rfl⟩; refine ⟨trivial, ?_⟩; (try simp only [nA, Nat.reduceBEq, Nat.reduceEqDiff, ↓reduceIte, Nat.reduceAdd, Nat.reduceSub])
       refine axP 11 rfl (fun T' ok => op_build2 (xs := [_, _, _, .v (.int .i64 0)]) rfl pl42 ze42 [(0, [_]), (1, [_]), (2, [_])] rfl rfl rfl) trivial (by kernel_rfl) (by kernel_rfl) ?_; (try simp only [nA, Nat.reduceBEq, Nat.reduceEqDiff, ↓reduceIte, Nat.reduceAdd, Nat.reduceSub])
       refine ax1 12 (by kernel_rfl) ?_; refine AXi.mkJ (i := 12) rfl (OpJ.atP 2 rfl (op_alloc rfl ze42 rfl) rfl) trivial ?_; (try simp only [nA, Nat.reduceBEq, Nat.reduceEqDiff, ↓reduceIte, Nat.reduceAdd, Nat.reduceSub])
       refine ax1 13 (by kernel_rfl) ?_; refine AXi.mkJ (i := 13) rfl (op_store rfl rfl rfl rfl rfl rfl sz42 rfl (Nat.le_of_ble_eq_true rfl) rfl) trivial ?_; (try simp only [nA, Nat.reduceBEq, Nat.reduceEqDiff, ↓reduceIte, Nat.reduceAdd, Nat.reduceSub]); refine axDone (by kernel_rfl) ?_; exact ⟨(u, _, _, _), trivial, ⟨rfl, rfl, rfl, rfl, rfl, rfl, trivial⟩, rfl, rfl⟩
     ·
       refine AXi.mkJ (i := 12) rfl (OpJ.atP 2 rfl (op_alloc rfl ze42 rfl) rfl) trivial ?_; (try simp only [nA, Nat.reduceBEq, Nat.reduceEqDiff, ↓reduceIte, Nat.reduceAdd, Nat.reduceSub])
       refine ax1 2 (by kernel_rfl) ?_; refine AXi.mk (i := 2) rfl (OpJ.nmS (OpJ.at 1 rfl (op_make rfl rfl rfl rfl rfl (Nat.le_refl _) Try.underlying23 ze3 (by omega) (by decide) rfl) rfl) rfl (by simp)) ?_; rintro _ _ ⟨u, hu, rfl, rfl⟩; refine ⟨trivial, ?_⟩; (try simp only [nA, Nat.reduceBEq, Nat.reduceEqDiff, ↓reduceIte, Nat.reduceAdd, Nat.reduceSub])
       refine axP 11 rfl (fun T' ok => op_build2 (xs := [_, _, _, .v (.int .i64 0)]) rfl pl42 ze42 [(0, [_]), (1, [_]), (2, [_])] rfl rfl rfl) trivial (by kernel_rfl) (by kernel_rfl) ?_; (try simp only [nA, Nat.reduceBEq, Nat.reduceEqDiff, ↓reduceIte, Nat.reduceAdd, Nat.reduceSub])
       refine ax1 13 (by kernel_rfl) ?_; refine AXi.mkJ (i := 13) rfl (op_store rfl rfl rfl rfl rfl rfl sz42 rfl (Nat.le_of_ble_eq_true rfl) rfl) trivial ?_; (try simp only [nA, Nat.reduceBEq, Nat.reduceEqDiff, ↓reduceIte, Nat.reduceAdd, Nat.reduceSub]); refine axDone (by kernel_rfl) ?_; exact ⟨(u, _, _, _), trivial, ⟨rfl, rfl, rfl, rfl, rfl, rfl, trivial⟩, rfl, rfl⟩
   rintro ⟨u, k1, k2, e⟩ ρ0 _; simp only [updL]; (try simp only [nA, Nat.reduceBEq, Nat.reduceEqDiff, ↓reduceIte, Nat.reduceAdd, Nat.reduceSub])
   refine AW.pure (fun a w hs => hs.shapeA (r := 1) rfl) ?_
   rintro ⟨A, c, rfl, hA⟩
   simp only [List.length_replicate] at hA ⊢
   (refine AW.seq_k ?_; intro K hK)
   (refine AW.seq_k ?_; intro K hK)
   refine AW.region ?_
   (first | refine awP (op_fa_ptr rfl rfl rfl fl42_0 (by exact sz23) (by decide) rfl) ?_ | refine awP (op_fa_rop rfl rfl fl42_0 (by exact sz23) (by decide) (Nat.le_of_ble_eq_true rfl) rfl) ?_)
   (first | refine awR (op_load_ptr1 rfl rfl rfl rfl ag23 rfl rfl) ?_ | refine awR (op_load_rop1 rfl rfl ag23) ?_)
   refine awP (op_len_v rfl rfl Try.underlying23) ?_
   refine awP (op_move rfl rfl) ?_
   refine AWL.nil ?_
   (refine hK _ ?_; clear hK K; (try simp only [nA, Nat.reduceBEq, Nat.reduceEqDiff, ↓reduceIte, Nat.reduceAdd, Nat.reduceSub]))
   refine AW.block ?_
   refine AW.loopI (fun (i : Nat) => [(0, .ro (x.map Desc.av)), (1, .ro (y.map Desc.av)), (4, .ptr 0 1 0 0), (7, .ro ((sqW x y).map fun r => [.ro (r.map iv)])), (8, .ro ((asgF (sqW x y)).1.map iv)), (11, .ptr 2 k2 0 0), (45, .v (.int .i64 (x.length : Nat))), (46, .v (.int .i64 (i : Nat)))]) (fun i => ⟨[(1, .own 42 [[.v (.slice none 0 0), .v (.slice none 0 0), .v (.slice none 0 0), .v (.int .i64 0)]]), (k1, .nm (.slice A x.length c) 3 ((mxl i (List.replicate x.length 0) (List.replicate x.length (-1))).map iv)), (k2, .own 42 [[.v (.slice A x.length c), .ro (((asgF (sqW x y)).2.1.take x.length).map iv), .ro (((asgF (sqW x y)).2.2.take y.length).map iv), .v (.int .i64 0)]])], e⟩) (fun i => i ≤ x.length) (fun i => x.length - i) 0 (by simp) ⟨rfl, rfl, rfl, rfl, rfl, rfl, rfl, rfl, trivial⟩ (by rw [mxl_zero, List.map_replicate]) ?_; intro i ρ hi; simp only [updL]; (try simp only [nA, Nat.reduceBEq, Nat.reduceEqDiff, ↓reduceIte, Nat.reduceAdd, Nat.reduceSub])
   (refine AW.seq_k ?_; intro K hK)
   refine AW.region ?_
   refine awP (op_lss rfl rfl rfl) ?_
   refine AWL.nil ?_
   (refine hK _ ?_; clear hK K; (try simp only [nA, Nat.reduceBEq, Nat.reduceEqDiff, ↓reduceIte, Nat.reduceAdd, Nat.reduceSub]))
   (refine AW.seq_k ?_; intro K hK)
   refine AW.cond rfl rfl rfl (fun hc => ?_) (fun hc => ?_)
   ·
    (try simp only [hcS] at hc); have hc2 := hc; obtain ⟨g, rfl⟩ := hA (by omega); have hi2 : i < x.length := (by omega); have hml : (mxl i (List.replicate x.length 0) (List.replicate x.length (-1))).length = x.length := (by rw [mxl_len (by simp)]; simp)
    refine AW.skip ?_
    (refine hK _ ?_; clear hK K; (try simp only [nA, Nat.reduceBEq, Nat.reduceEqDiff, ↓reduceIte, Nat.reduceAdd, Nat.reduceSub]))
    (refine AW.seq_k ?_; intro K hK)
    refine AW.block ?_
    (refine AW.seq_k ?_; intro K hK)
    refine AW.region ?_
    refine awP (op_move rfl rfl) ?_
    refine awP (op_assign rfl rfl) ?_
    refine AWL.nil ?_
    (refine hK _ ?_; clear hK K; (try simp only [nA, Nat.reduceBEq, Nat.reduceEqDiff, ↓reduceIte, Nat.reduceAdd, Nat.reduceSub]))
    refine AW.region ?_
    (first | refine awP (op_fa_ptr rfl rfl rfl fl42_0 (by exact sz23) (by decide) rfl) ?_ | refine awP (op_fa_rop rfl rfl fl42_0 (by exact sz23) (by decide) (Nat.le_of_ble_eq_true rfl) rfl) ?_)
    (first | refine awR (op_load_ptr1 rfl rfl rfl rfl ag23 rfl rfl) ?_ | refine awR (op_load_rop1 rfl rfl ag23) ?_)
    refine awP (op_move rfl rfl) ?_
    refine awP (op_ia_v i 1 rfl rfl rfl Try.underlying23 rfl (by omega) sz3 rfl) ?_
    refine awJ (op_store_v 1 k1 i 0 rfl rfl rfl rfl (gI_mapD (by omega)) rfl sz3 rfl sz3 rfl (Nat.le_of_ble_eq_true rfl) (es' := (mxl (i + 1) (List.replicate x.length 0) (List.replicate x.length (-1))).map iv) (by rw [← mxl_set (by simp) (by simpa using hi2) (gI_rep hi2).symm, List.map_set]; rfl) rfl) ?_; (try simp only [nA, Nat.reduceBEq, Nat.reduceEqDiff, ↓reduceIte, Nat.reduceAdd, Nat.reduceSub])
    refine AWL.nil ?_
    (try simp only [thenE, inBlk, Nat.reduceEqDiff, ↓reduceIte])
    (refine hK _ ?_; clear hK K; (try simp only [nA, Nat.reduceBEq, Nat.reduceEqDiff, ↓reduceIte, Nat.reduceAdd, Nat.reduceSub]))
    refine AW.region ?_
    (first | refine awP (op_addi rfl rfl rfl (by omega)) ?_ | refine awP (op_add rfl rfl rfl rfl) ?_)
    refine awP (op_move rfl rfl) ?_
    skip
    refine AWL.nil ?_
    refine ⟨i + 1, by omega, by omega, ⟨rfl, rfl, rfl, rfl, rfl, rfl, rfl, rfl, trivial⟩, (by first | rfl | trivial), (by first | rfl | trivial)⟩
   ·
    (try simp only [hcS] at hc); have hc2 := hc; obtain rfl : i = x.length := (by omega); rw [mxl_full (by simp) (by simp)]
    refine AW.exit ?_; (try simp only [thenE, inBlk, Nat.reduceEqDiff, ↓reduceIte])
    clear hK K
    (refine hK _ ?_; clear hK K; (try simp only [nA, Nat.reduceBEq, Nat.reduceEqDiff, ↓reduceIte, Nat.reduceAdd, Nat.reduceSub]))
    (refine AW.seq_k ?_; intro K hK)
    (refine AW.seq_k ?_; intro K hK)
    refine AW.region ?_
    refine awP (op_move rfl rfl) ?_
    refine awP (op_move rfl rfl) ?_
    (first | refine awP (op_len_ro rfl rfl Try.underlying22 (by first | exact .inr (.inl ⟨_, rfl, rfl⟩) | exact .inl rfl | exact .inr (.inr (.inl ⟨_, rfl, rfl⟩)) | exact .inr (.inr (.inr ⟨rfl, rfl⟩)))) ?_ | refine awP (op_len_sl rfl rfl rfl Try.underlying22) ?_ | refine awP (op_len_str rfl rfl Try.underlying22) ?_)
    (try simp only [nA, Nat.reduceBEq, Nat.reduceEqDiff, ↓reduceIte, Nat.reduceAdd, Nat.reduceSub]); refine awP (op_slice_ro 0 y.length rfl (.inl rfl) (by exact rfl) (by exact ⟨_, rfl⟩) (by omega) (by rw [List.length_map]; omega) Try.underlying23 sz23 (iv_len _) (es' := ((asgF (sqW x y)).1.take y.length).map iv) (by simp [List.map_take])) ?_; (try simp only [nA, Nat.reduceBEq, Nat.reduceEqDiff, ↓reduceIte, Nat.reduceAdd, Nat.reduceSub])
    refine awP (op_len_ro (n := y.length) (x := .ro (((asgF (sqW x y)).1.take y.length).map iv)) rfl rfl Try.underlying23 (.inr (.inl ⟨_, rfl, by rw [List.length_map, List.length_take]; omega⟩))) ?_
    refine awP (op_move rfl rfl) ?_
    refine AWL.nil ?_
    (refine hK _ ?_; clear hK K; (try simp only [nA, Nat.reduceBEq, Nat.reduceEqDiff, ↓reduceIte, Nat.reduceAdd, Nat.reduceSub]))
    refine AW.block ?_
    refine AW.loopI (fun (j : Nat) => [(0, .ro (x.map Desc.av)), (1, .ro (y.map Desc.av)), (4, .ptr 0 1 0 0), (7, .ro ((sqW x y).map fun r => [.ro (r.map iv)])), (8, .ro ((asgF (sqW x y)).1.map iv)), (11, .ptr 2 k2 0 0), (57, .ro (((asgF (sqW x y)).1.take y.length).map iv)), (58, .v (.int .i64 (y.length : Nat))), (59, .v (.int .i64 (j : Nat)))]) (fun j => ⟨[(1, .own 42 [[.v (.slice none 0 0), .v (.slice none 0 0), .v (.slice none 0 0), .v (.int .i64 0)]]), (k1, .nm (.slice A x.length c) 3 ((pfs x y j).1.map iv)), (k2, .own 42 [[.v (.slice A x.length c), .ro (((asgF (sqW x y)).2.1.take x.length).map iv), .ro (((asgF (sqW x y)).2.2.take y.length).map iv), .v (.int .i64 (pfs x y j).2)]])], e⟩) (fun j => j ≤ y.length) (fun j => y.length - j) 0 (by simp) ⟨rfl, rfl, rfl, rfl, rfl, rfl, rfl, rfl, rfl, trivial⟩ rfl ?_; intro j ρ hj; simp only [updL]; (try simp only [nA, Nat.reduceBEq, Nat.reduceEqDiff, ↓reduceIte, Nat.reduceAdd, Nat.reduceSub]); have hpb := pfs_bd (x := x) (y := y) j
    (refine AW.seq_k ?_; intro K hK)
    refine AW.region ?_
    refine awP (op_lss rfl rfl rfl) ?_
    refine AWL.nil ?_
    (refine hK _ ?_; clear hK K; (try simp only [nA, Nat.reduceBEq, Nat.reduceEqDiff, ↓reduceIte, Nat.reduceAdd, Nat.reduceSub]))
    (refine AW.seq_k ?_; intro K hK)
    refine AW.cond rfl rfl rfl (fun hc => ?_) (fun hc => ?_)
    ·
     (try simp only [hcS] at hc); have hc3 := hc; have hj2 : j < y.length := (by omega); have hjn : j < max x.length y.length := (by omega); have hf0 := hP.full j hjn; have hrg := hP.rg j hjn; obtain ⟨v, hv⟩ : ∃ v, gI (asgF (sqW x y)).1 j = v := ⟨_, rfl⟩; rw [hv] at hf0 hrg; have hwb := sq_bd (x := x) (y := y) v.toNat j; have hWl := sqF_len (R := x.length) (F := y.length) (sc := scD x y); have hvl : v.toNat < (sqW x y).length := (by rw [hWl]; omega); have hwr := sqF_row (R := x.length) (F := y.length) (sc := scD x y) (i := v.toNat) (by omega); have hwl : ((sqW x y).getD v.toNat default).length = max x.length y.length := (by rw [hwr]; simp)
     refine AW.skip ?_
     (refine hK _ ?_; clear hK K; (try simp only [nA, Nat.reduceBEq, Nat.reduceEqDiff, ↓reduceIte, Nat.reduceAdd, Nat.reduceSub]))
     (refine AW.seq_k ?_; intro K hK)
     refine AW.block ?_
     (refine AW.seq_k ?_; intro K hK)
     refine AW.region ?_
     refine awP (op_move rfl rfl) ?_
     refine awP (op_ia_ro j rfl (.inl rfl) rfl Try.underlying23 rfl (row := iv v) (by rw [gI_mapD (by rw [List.length_take]; omega), gI_take hj2, hv]) (by exact sz3) (Nat.le_of_ble_eq_true rfl)) ?_
     (first | refine awR (op_load_ptr1 rfl rfl rfl rfl ag3 rfl rfl) ?_ | refine awR (op_load_rop1 rfl rfl ag3) ?_)
     refine awP (op_assign rfl rfl) ?_
     refine awP (op_assign rfl rfl) ?_
     refine AWL.nil ?_
     (refine hK _ ?_; clear hK K; (try simp only [nA, Nat.reduceBEq, Nat.reduceEqDiff, ↓reduceIte, Nat.reduceAdd, Nat.reduceSub]))
     (refine AW.seq_k ?_; intro K hK)
     refine AW.region (AWL.quiet ?_)
     refine aqP (op_move rfl rfl) ?_
     refine aqP (op_move rfl rfl) ?_
     (first | refine aqP (op_len_ro rfl rfl Try.underlying22 (by first | exact .inr (.inl ⟨_, rfl, rfl⟩) | exact .inl rfl | exact .inr (.inr (.inl ⟨_, rfl, rfl⟩)) | exact .inr (.inr (.inr ⟨rfl, rfl⟩)))) ?_ | refine aqP (op_len_sl rfl rfl rfl Try.underlying22) ?_ | refine aqP (op_len_str rfl rfl Try.underlying22) ?_)
     refine aqP (op_lss rfl rfl rfl) ?_
     refine aqP (op_move rfl rfl) ?_
     refine' aqAnd' [_, _, _, _, _, _, _, _] [69,70,71,72,73,74,75,76] rfl rfl rfl rfl rfl rfl rfl rfl rfl rfl rfl rfl (fun hb => ?_) ?_; rotate_left
     ·
      (try simp only [hcS] at hb)
      refine aqP (op_move rfl rfl) ?_
      refine aqP (op_move rfl rfl) ?_
      refine aqP (op_ia_ro v.toNat rfl (.inl rfl) rfl Try.underlying67 (by omega) (get_mapD (f := fun r : List Int => [AV.ro (r.map iv)]) hvl) (by exact sz23) (Nat.le_of_ble_eq_true rfl)) ?_
      (first | refine aqR (op_load_ptr1 rfl rfl rfl rfl ag23 rfl rfl) ?_ | refine aqR (op_load_rop1 rfl rfl ag23) ?_)
      refine aqP (op_move rfl rfl) ?_
      refine aqP (op_ia_ro j rfl (.inl rfl) rfl Try.underlying23 rfl (gI_mapD (by omega)) (by exact sz3) (Nat.le_of_ble_eq_true rfl)) ?_
      (first | refine aqR (op_load_ptr1 rfl rfl rfl rfl ag3 rfl rfl) ?_ | refine aqR (op_load_rop1 rfl rfl ag3) ?_)
      refine aqP (op_gtr rfl rfl rfl) ?_
      (refine aqSeg rfl rfl rfl ?_; repeat (first | exact fun _ _ => rfl | refine upd_out rfl ?_ | refine era_out rfl ?_))
     (try simp only [nA, Nat.reduceBEq, Nat.reduceEqDiff, ↓reduceIte, Nat.reduceAdd, Nat.reduceSub])
     refine AQ.nil ?_
     (refine hK _ ?_; clear hK K; (try simp only [nA, Nat.reduceBEq, Nat.reduceEqDiff, ↓reduceIte, Nat.reduceAdd, Nat.reduceSub]))
     refine AW.cond rfl rfl rfl (fun hc => ?_) (fun hc => ?_)
     ·
      (try simp only [hcS] at hc); have hc4 := hc; obtain ⟨g, rfl⟩ := hA (by omega); have hst := pfs_yes (x := x) (y := y) (j := j) (by rw [hv]; exact ⟨hc4.1, hc4.2⟩); rw [hv] at hst
      (refine AW.seq_k ?_; intro K hK)
      refine AW.region ?_
      (first | refine awP (op_fa_ptr rfl rfl rfl fl42_0 (by exact sz23) (by decide) rfl) ?_ | refine awP (op_fa_rop rfl rfl fl42_0 (by exact sz23) (by decide) (Nat.le_of_ble_eq_true rfl) rfl) ?_)
      (first | refine awR (op_load_ptr1 rfl rfl rfl rfl ag23 rfl rfl) ?_ | refine awR (op_load_rop1 rfl rfl ag23) ?_)
      refine awP (op_move rfl rfl) ?_
      refine awP (op_move rfl rfl) ?_
      refine awP (op_ia_v v.toNat 1 rfl rfl rfl Try.underlying23 (by omega) (by omega) sz3 rfl) ?_
      refine awJ (op_store_v 1 k1 v.toNat 0 rfl rfl rfl rfl (gI_mapD (by omega)) rfl sz3 rfl sz3 rfl (Nat.le_of_ble_eq_true rfl) (es' := (pfs x y (j + 1)).1.map iv) (by rw [hst, List.map_set]; rfl) rfl) ?_; (try simp only [nA, Nat.reduceBEq, Nat.reduceEqDiff, ↓reduceIte, Nat.reduceAdd, Nat.reduceSub])
      refine AWL.nil ?_
      (refine hK _ ?_; clear hK K; (try simp only [nA, Nat.reduceBEq, Nat.reduceEqDiff, ↓reduceIte, Nat.reduceAdd, Nat.reduceSub]))
      refine AW.quiet_tail 11 mix (by kernel_rfl) rfl rfl ?_
      (first | refine aqP (op_fa_ptr rfl rfl rfl fl42_3 (by exact sz3) (by decide) rfl) ?_ | refine aqP (op_fa_rop rfl rfl fl42_3 (by exact sz3) (by decide) (Nat.le_of_ble_eq_true rfl) rfl) ?_)
      (first | refine aqR (op_load_ptr1 rfl rfl rfl rfl ag3 rfl rfl) ?_ | refine aqR (op_load_rop1 rfl rfl ag3) ?_)
      refine aqP (op_move rfl rfl) ?_
      refine aqP (op_move rfl rfl) ?_
      refine aqP (op_ia_ro v.toNat rfl (.inl rfl) rfl Try.underlying67 (by omega) (get_mapD (f := fun r : List Int => [AV.ro (r.map iv)]) hvl) (by exact sz23) (Nat.le_of_ble_eq_true rfl)) ?_
      (first | refine aqR (op_load_ptr1 rfl rfl rfl rfl ag23 rfl rfl) ?_ | refine aqR (op_load_rop1 rfl rfl ag23) ?_)
      refine aqP (op_move rfl rfl) ?_
      refine aqP (op_ia_ro j rfl (.inl rfl) rfl Try.underlying23 rfl (gI_mapD (by omega)) (by exact sz3) (Nat.le_of_ble_eq_true rfl)) ?_
      (first | refine aqR (op_load_ptr1 rfl rfl rfl rfl ag3 rfl rfl) ?_ | refine aqR (op_load_rop1 rfl rfl ag3) ?_)
      (first | refine aqP (op_addi rfl rfl rfl (by omega)) ?_ | refine aqP (op_add rfl rfl rfl rfl) ?_)
      (first | refine aqP (op_fa_ptr rfl rfl rfl fl42_3 (by exact sz3) (by decide) rfl) ?_ | refine aqP (op_fa_rop rfl rfl fl42_3 (by exact sz3) (by decide) (Nat.le_of_ble_eq_true rfl) rfl) ?_)
      refine AQ.nil ?_
      refine awJ (op_store rfl rfl rfl rfl rfl rfl sz3 rfl (Nat.le_of_ble_eq_true rfl) rfl) ?_; (try simp only [nA, Nat.reduceBEq, Nat.reduceEqDiff, ↓reduceIte, Nat.reduceAdd, Nat.reduceSub])
      refine AWL.nil ?_
      (try simp only [thenE, inBlk, Nat.reduceEqDiff, ↓reduceIte])
      (refine hK _ ?_; clear hK K; (try simp only [nA, Nat.reduceBEq, Nat.reduceEqDiff, ↓reduceIte, Nat.reduceAdd, Nat.reduceSub]))
      refine AW.region ?_
      (first | refine awP (op_addi rfl rfl rfl (by omega)) ?_ | refine awP (op_add rfl rfl rfl rfl) ?_)
      refine awP (op_move rfl rfl) ?_
      skip
      refine AWL.nil ?_
      refine ⟨j + 1, by omega, by omega, ⟨rfl, rfl, rfl, rfl, rfl, rfl, rfl, rfl, rfl, trivial⟩, (by rw [hst]), (by first | rfl | trivial)⟩
     ·
      (try simp only [hcS] at hc); have hc4 := hc; skip
      refine AW.skip ?_
      (try simp only [thenE, inBlk, Nat.reduceEqDiff, ↓reduceIte])
      (refine hK _ ?_; clear hK K; (try simp only [nA, Nat.reduceBEq, Nat.reduceEqDiff, ↓reduceIte, Nat.reduceAdd, Nat.reduceSub]))
      refine AW.region ?_
      (first | refine awP (op_addi rfl rfl rfl (by omega)) ?_ | refine awP (op_add rfl rfl rfl rfl) ?_)
      refine awP (op_move rfl rfl) ?_
      refine AWL.nil ?_
      refine ⟨j + 1, by omega, by omega, ⟨rfl, rfl, rfl, rfl, rfl, rfl, rfl, rfl, rfl, trivial⟩, (by rw [pfs_no (by rw [hv]; omega)]), (by first | rfl | trivial)⟩
    ·
     (try simp only [hcS] at hc); have hc3 := hc; obtain rfl : j = y.length := (by omega)
     refine AW.exit ?_; (try simp only [thenE, inBlk, Nat.reduceEqDiff, ↓reduceIte])
     clear hK K
     (refine hK _ ?_; clear hK K; (try simp only [nA, Nat.reduceBEq, Nat.reduceEqDiff, ↓reduceIte, Nat.reduceAdd, Nat.reduceSub]))
     (refine AW.seq_k ?_; intro K hK)
     refine AW.region ?_
     refine AWL.gh (Gh.nest (r := 2) (q := 1) 0 0 rfl rfl rfl rfl (by decide) (es2 := [[.own 3 ((pfs x y y.length).1.map iv), .ro (((asgF (sqW x y)).2.1.take x.length).map iv), .ro (((asgF (sqW x y)).2.2.take y.length).map iv), .v (.int .i64 (pfs x y y.length).2)]]) rfl) ?_; (try simp only [nA, Nat.reduceBEq, Nat.reduceEqDiff, ↓reduceIte, Nat.reduceAdd, Nat.reduceSub]); refine AWL.gh (Gh.freezeC (r := 2) (e' := 3) (es' := (pfs x y y.length).1.map iv) (row := [.own 3 ((pfs x y y.length).1.map iv), .ro (((asgF (sqW x y)).2.1.take x.length).map iv), .ro (((asgF (sqW x y)).2.2.take y.length).map iv), .v (.int .i64 (pfs x y y.length).2)]) 0 0 rfl rfl rfl (iv_flat _) (es2 := [[.ro ((pfs x y y.length).1.map iv), .ro (((asgF (sqW x y)).2.1.take x.length).map iv), .ro (((asgF (sqW x y)).2.2.take y.length).map iv), .v (.int .i64 (pfs x y y.length).2)]]) rfl) ?_; (try simp only [nA, Nat.reduceBEq, Nat.reduceEqDiff, ↓reduceIte, Nat.reduceAdd, Nat.reduceSub]); (first | refine awR (op_load_ptr rfl rfl rfl rfl ag42 sz42 (Nat.le_of_ble_eq_true rfl) rfl) ?_ | refine awR (op_load_rop rfl rfl ag42 sz42 (Nat.le_of_ble_eq_true rfl) (by decide) rfl) ?_); (try simp only [nA, Nat.reduceBEq, Nat.reduceEqDiff, ↓reduceIte, Nat.reduceAdd, Nat.reduceSub])
     refine awJ (op_store rfl rfl rfl rfl rfl rfl sz42 rfl (Nat.le_of_ble_eq_true rfl) rfl) ?_; (try simp only [nA, Nat.reduceBEq, Nat.reduceEqDiff, ↓reduceIte, Nat.reduceAdd, Nat.reduceSub])
     refine awP (op_assign rfl rfl) ?_
     refine AWL.nil ?_
     (refine hK _ ?_; clear hK K; (try simp only [nA, Nat.reduceBEq, Nat.reduceEqDiff, ↓reduceIte, Nat.reduceAdd, Nat.reduceSub]))
     skip
     refine AW.ret ?_; (try simp only [thenE, inBlk, Nat.reduceEqDiff, ↓reduceIte]); rw [matchF_ok he0, he0]; exact RQ.of0 rfl (.cell (Nat.le_of_ble_eq_true rfl) rfl rfl rfl ag42 sz42 (Nat.le_of_ble_eq_true rfl) rfl rfl (.tmp (Nat.le_of_ble_eq_true rfl) rfl rfl .nil))
end Go.Proofs.Ytjgbbffcjbmjmaa
