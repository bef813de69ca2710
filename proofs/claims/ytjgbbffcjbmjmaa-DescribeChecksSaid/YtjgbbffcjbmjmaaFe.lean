import Derived.Test.YtjgbbffcjbmjmaaFd
namespace Go.Proofs.Ytjgbbffcjbmjmaa
open Go.RowKit
set_option linter.unusedSimpArgs false
set_option linter.unusedVariables false

theorem ze81 : zeroIs Try.prog 81 .nilFunc 1 8 := ⟨by kernel_rfl, rfl, by simp [Value.cells, Value.oneCell']⟩
def mxl (k : Nat) (old new : List Int) : List Int := new.take k ++ old.drop k
section
variable {k : Nat} {old new : List Int}
theorem mxl_at (h : old.length = new.length) {j : Nat} : gI (mxl k old new) j = if j < k then gI new j else gI old j := by
  unfold gI mxl
  rw [List.getD_eq_getElem?_getD, List.getD_eq_getElem?_getD, List.getD_eq_getElem?_getD, List.getElem?_append]
  by_cases hk : k ≤ new.length
  · rw [List.length_take, Nat.min_eq_left hk]
    split
    · rename_i h1; rw [List.getElem?_take_of_lt h1]
    · rename_i h1; rw [List.getElem?_drop, show k + (j - k) = j by omega]
  · rw [List.length_take, Nat.min_eq_right (by omega), List.take_of_length_le (by omega), List.drop_of_length_le (by omega)]
    split
    · rename_i h1; rw [if_pos (by omega)]
    · rename_i h1
      rw [List.getElem?_nil]
      split <;> rw [List.getElem?_eq_none (by omega)]
theorem mxl_len (h : old.length = new.length) : (mxl k old new).length = new.length := by unfold mxl; simp; omega
theorem gI_ext {l l' : List Int} (h : l.length = l'.length) (hj : ∀ j, j < l.length → gI l j = gI l' j) : l = l' := by
  apply List.ext_getElem h
  intro j h1 h2
  have := hj j h1
  unfold gI at this
  rw [List.getD_eq_getElem?_getD, List.getD_eq_getElem?_getD, List.getElem?_eq_getElem h1, List.getElem?_eq_getElem h2] at this
  exact this
theorem mxl_set (h : old.length = new.length) (hk : k < old.length) {x : Int} (hx : x = gI new k) : (mxl k old new).set k x = mxl (k + 1) old new := by
  subst hx
  refine gI_ext (by rw [List.length_set, mxl_len h, mxl_len h]) fun j hj => ?_
  rw [gI_set (by rw [mxl_len h]; omega), mxl_at h, mxl_at h]
  by_cases e : k = j
  · subst e; rw [if_pos rfl, if_pos (by omega)]
  · rw [if_neg e]
    split
    · rw [if_pos (by omega)]
    · rw [if_neg (by omega)]
theorem mxl_same (h : old.length = new.length) (hx : gI old k = gI new k) : mxl k old new = mxl (k + 1) old new := by
  refine gI_ext (by rw [mxl_len h, mxl_len h]) fun j hj => ?_
  rw [mxl_at h, mxl_at h]
  by_cases e : k = j
  · subst e; rw [if_neg (by omega), if_pos (by omega)]; exact hx
  · split
    · rw [if_pos (by omega)]
    · rw [if_neg (by omega)]
theorem mxl_zero : mxl 0 old new = old := by simp [mxl]
theorem mxl_full (h : old.length = new.length) (hk : new.length ≤ k) : mxl k old new = new := by
  unfold mxl
  rw [List.take_of_length_le hk, List.drop_of_length_le (by omega)]
  simp
end
def most (l : List Int) : Int := l.foldl max 0
def rows0 (W : List (List Int)) : List Int := W.map most
theorem rows0_at {W : List (List Int)} {i : Nat} (h : i < W.length) : gI (rows0 W) i = most (W.getD i default) := by
  unfold gI rows0
  rw [List.getD_eq_getElem?_getD, List.getD_eq_getElem?_getD, List.getElem?_map, List.getElem?_eq_getElem h]
  rfl
theorem most_take {l : List Int} {j : Nat} (h : j < l.length) : most (l.take (j + 1)) = max (most (l.take j)) (gI l j) := by
  unfold most gI
  rw [List.take_add_one, List.getD_eq_getElem?_getD, List.getElem?_eq_getElem h, List.foldl_append]
  rfl
theorem foldl_max_ge : ∀ (l : List Int) (x : Int), x ≤ l.foldl max x ∧ ∀ k, k < l.length → gI l k ≤ l.foldl max x
  | [], x => ⟨Int.le_refl _, fun k h => by simp at h⟩
  | y :: l, x => by
    have ih := foldl_max_ge l (max x y)
    rw [List.foldl_cons]
    refine ⟨by omega, fun k hk => ?_⟩
    cases k with
    | zero => have : gI (y :: l) 0 = y := rfl; omega
    | succ k => have h1 := ih.2 k (by simpa using hk); exact h1
theorem foldl_max_le {B : Int} : ∀ (l : List Int) (x : Int), x ≤ B → (∀ k, k < l.length → gI l k ≤ B) → l.foldl max x ≤ B
  | [], x, h, _ => h
  | y :: l, x, h, hk => by
    rw [List.foldl_cons]
    have h0 := hk 0 (by simp)
    have : gI (y :: l) 0 = y := rfl
    exact foldl_max_le l _ (by omega) fun k hk' => hk (k + 1) (by simpa using hk')
theorem gI_rep {n k : Nat} {x : Int} (h : k < n) : gI (List.replicate n x) k = x := by
  unfold gI
  rw [List.getD_eq_getElem?_getD, List.getElem?_replicate, if_pos h]
  rfl
def asg0 (W : List (List Int)) : List Int × List Int × List Int := (List.replicate W.length (-1), rows0 W, List.replicate W.length 0)
def asgF (W : List (List Int)) : List Int × List Int × List Int := asg W W.length (List.range' 0 W.length) (asg0 W)
theorem start_inv {W : List (List Int)} {B : Int} (hW : WOk W.length B W) (hB : 0 ≤ B) : P3 W.length B W 0 (asg0 W) := by
  have hr : ∀ r, r < W.length → gI (rows0 W) r = most (W.getD r default) := fun r hr => rows0_at hr
  have ht : ∀ k, k < W.length → gI (asg0 W).1 k = -1 := fun k hk => gI_rep hk
  have hc : ∀ k, k < W.length → gI (asg0 W).2.2 k = 0 := fun k hk => gI_rep hk
  refine ⟨by simp [asg0], by simp [asg0, rows0], by simp [asg0], fun r k hr' hk => ?_, fun r hr' => ?_, fun k hk => by rw [hc k hk]; exact Int.le_refl _, fun k hk h0 => by rw [ht k hk] at h0; omega, fun k hk _ => hc k hk, fun k hk => by rw [ht k hk]; omega, fun k k' hk _ h0 => by rw [ht k hk] at h0; omega, fun r hr => by omega⟩
  · have h1 := (foldl_max_ge (W.getD r default) 0).2 k (by rw [hW.wr r hr']; exact hk)
    show _ ≤ gI (rows0 W) r + _
    rw [hr r hr', hc k hk]
    unfold most
    omega
  · show 0 ≤ gI (rows0 W) r ∧ gI (rows0 W) r ≤ B
    rw [hr r hr']
    exact ⟨(foldl_max_ge _ 0).1, foldl_max_le _ 0 hB fun k hk => (hW.w0 r k hr' (by rw [hW.wr r hr'] at hk; exact hk)).2⟩
theorem asgF_inv {W : List (List Int)} {B : Int} (hW : WOk W.length B W) (hB : 0 ≤ B) : P3 W.length B W W.length (asgF W) := asg_inv hW W.length 0 _ (by omega) (start_inv hW hB)
theorem ite_max {a b : Int} : (if b > a then b else a) = max a b := by split <;> omega
theorem ite_min {a b : Int} : (if b < a then b else a) = min a b := by split <;> omega
theorem set_mx {l : List Int} {i : Nat} {x y : Int} : (l.set i x).set i y = l.set i y := by rw [List.set_set]
theorem mxl_at_set {W : List (List Int)} {i : Nat} {x : Int} (h : i < W.length) : gI ((mxl i (List.replicate W.length 0) (rows0 W)).set i x) i = x := by
  rw [gI_set (by rw [mxl_len (by simp [rows0])]; simpa [rows0] using h), if_pos rfl]
theorem set_self {l : List Int} {i : Nat} {x : Int} (h : gI l i = x) : l.set i x = l := by
  refine gI_ext (by simp) fun j hj => ?_
  have hj' : j < l.length := by simpa using hj
  by_cases hi : i < l.length
  · rw [gI_set hi]
    split
    · rename_i e; subst e; exact h.symm
    · rfl
  · rw [List.set_eq_of_length_le (by omega)]
theorem cong2 {α β γ : Type} (f : α → β → γ) {a a' : α} {b b' : β} (h : a = a') (h' : b = b') : f a b = f a' b' := by rw [h, h']
theorem asg_step {W : List (List Int)} {n i : Nat} {s R : List Int × List Int × List Int} (hi : i < n) (h : asg W n (List.range' i (n - i)) s = R) : asg W n (List.range' (i + 1) (n - (i + 1))) (rnd W n i (fuelOf s.2.1) s) = R := by
  rw [range'_step hi] at h
  exact h
theorem asg_end {W : List (List Int)} {n i : Nat} {s R : List Int × List Int × List Int} (hi : ¬ i < n) (h : asg W n (List.range' i (n - i)) s = R) : R = s := by
  rw [show n - i = 0 by omega] at h
  exact h.symm
section
variable {W : List (List Int)} {rows cols : List Int} {sr sc : List Bool} {n r k : Nat} {x X : Int}
theorem stepK_next (hk : k < n) (h : stepK W rows cols sr sc r (List.range' k (n - k)) x = X) (hc : gB sr r = true ∧ gB sc k = false) : stepK W rows cols sr sc r (List.range' (k + 1) (n - (k + 1))) (if gI rows r + gI cols k - gI (W.getD r default) k < x then gI rows r + gI cols k - gI (W.getD r default) k else x) = X := by
  rw [range'_step hk] at h
  unfold stepK at h
  rw [if_pos hc] at h
  rw [ite_min]
  exact h
theorem stepK_skip (hk : k < n) (h : stepK W rows cols sr sc r (List.range' k (n - k)) x = X) (hc : ¬ (gB sr r = true ∧ gB sc k = false)) : stepK W rows cols sr sc r (List.range' (k + 1) (n - (k + 1))) x = X := by
  rw [range'_step hk] at h
  unfold stepK at h
  rw [if_neg hc] at h
  exact h
theorem stepK_end (hk : ¬ k < n) (h : stepK W rows cols sr sc r (List.range' k (n - k)) x = X) : x = X := by
  rw [show n - k = 0 by omega] at h
  exact h
theorem stepR_next (hr : r < n) (h : stepR W rows cols sr sc n (List.range' r (n - r)) x = X) : stepR W rows cols sr sc n (List.range' (r + 1) (n - (r + 1))) (stepK W rows cols sr sc r (List.range' 0 n) x) = X := by
  rw [range'_step hr] at h
  exact h
theorem stepR_end (hr : ¬ r < n) (h : stepR W rows cols sr sc n (List.range' r (n - r)) x = X) : X = x := by
  rw [show n - r = 0 by omega] at h
  exact h.symm
end
theorem flat2_one {e : TypeId} (l : List Int) : ∀ r ∈ [[AV.own e (l.map iv)]], ∀ c ∈ r, flat2 c := by
  intro r hr c hc
  obtain rfl := List.mem_singleton.1 hr
  obtain rfl := List.mem_singleton.1 hc
  refine .inr ⟨_, _, rfl, fun r hr c hc => ?_⟩
  obtain ⟨x, _, rfl⟩ := List.mem_map.1 hr
  obtain rfl := List.mem_singleton.1 hc
  rfl
/-! ### The walk -/
theorem gI_mapD {l : List Int} {i : Nat} (h : i < l.length) : (l.map iv)[i]? = some (iv (gI l i)) := get_mapD h
theorem gB_mapD {l : List Bool} {i : Nat} (h : i < l.length) : (l.map bv)[i]? = some (bv (gB l i)) := get_mapD h


set_option maxHeartbeats 4000000 in
theorem C40 {W : List (List Int)} {B : Int} (hW : WOk W.length B W) (hn : W.length ≤ 1000) (hB : 0 ≤ B) (hB2 : B ≤ 1000000) : Fn Try.prog 40 [] [.ro (W.map fun r => [.ro (r.map iv)])] [.ro ((asgF W).1.map iv), .ro ((asgF W).2.1.map iv), .ro ((asgF W).2.2.map iv)] [] := by
  refine Spec.body Try.func40 rfl Try.ntmps40 (by simp) rfl ?_; intro S0 own0 v0 w0
  (refine AW.seq_k ?_; intro K hK)
  refine AW.region ?_
  refine awX (OpJ.nmPN (op_box rfl rfl rfl sz67 rfl)) ?_; rintro _ _ ⟨g0, c0, rfl, rfl⟩; (try simp only [nA, Nat.reduceBEq, Nat.reduceEqDiff, ↓reduceIte, Nat.reduceAdd, Nat.reduceSub])
  refine awX (OpJ.nmPN (op_alloc rfl ze23 rfl)) ?_; rintro _ _ ⟨g1, c1, rfl, rfl⟩; (try simp only [nA, Nat.reduceBEq, Nat.reduceEqDiff, ↓reduceIte, Nat.reduceAdd, Nat.reduceSub])
  refine awX (OpJ.nmPN (op_alloc rfl ze23 rfl)) ?_; rintro _ _ ⟨g2, c2, rfl, rfl⟩; (try simp only [nA, Nat.reduceBEq, Nat.reduceEqDiff, ↓reduceIte, Nat.reduceAdd, Nat.reduceSub])
  refine awX (OpJ.nmPN (op_alloc rfl ze23 rfl)) ?_; rintro _ _ ⟨g3, c3, rfl, rfl⟩; (try simp only [nA, Nat.reduceBEq, Nat.reduceEqDiff, ↓reduceIte, Nat.reduceAdd, Nat.reduceSub])
  refine AWL.nil ?_
  (refine hK _ ?_; clear hK K; (try simp only [nA, Nat.reduceBEq, Nat.reduceEqDiff, ↓reduceIte, Nat.reduceAdd, Nat.reduceSub]))
  (refine AW.seq_k ?_; intro K hK)
  refine AW.region ?_
  refine awR (op_load_v 0 _ 0 0 rfl rfl rfl rfl ag67 sz67 rfl rfl rfl) ?_; (try simp only [nA, Nat.reduceBEq, Nat.reduceEqDiff, ↓reduceIte, Nat.reduceAdd, Nat.reduceSub])
  (first | refine awP (op_len_ro rfl rfl Try.underlying67 (by first | exact .inr (.inl ⟨_, rfl, rfl⟩) | exact .inl rfl | exact .inr (.inr (.inl ⟨_, rfl, rfl⟩)) | exact .inr (.inr (.inr ⟨rfl, rfl⟩)))) ?_ | refine awP (op_len_sl rfl rfl rfl Try.underlying67) ?_ | refine awP (op_len_str rfl rfl Try.underlying67) ?_); (try simp only [nA, Nat.reduceBEq, Nat.reduceEqDiff, ↓reduceIte, Nat.reduceAdd, Nat.reduceSub])
  refine awX (OpJ.nmPN (op_alloc rfl ze3 rfl)) ?_; rintro _ _ ⟨g4, c4, rfl, rfl⟩; (try simp only [nA, Nat.reduceBEq, Nat.reduceEqDiff, ↓reduceIte, Nat.reduceAdd, Nat.reduceSub])
  refine awJ (op_store_v 4 _ 0 0 rfl rfl rfl rfl rfl rfl sz3 rfl sz3 rfl (Nat.le_of_ble_eq_true rfl) rfl rfl) ?_; (try simp only [nA, Nat.reduceBEq, Nat.reduceEqDiff, ↓reduceIte, Nat.reduceAdd, Nat.reduceSub])
  refine AWL.nil ?_
  (refine hK _ ?_; clear hK K; (try simp only [nA, Nat.reduceBEq, Nat.reduceEqDiff, ↓reduceIte, Nat.reduceAdd, Nat.reduceSub]))
  refine AW.gh Gh.reserve ?_; refine AW.gh Gh.reserve ?_; refine AW.gh Gh.reserve ?_; (try simp only [nA, Nat.reduceBEq, Nat.reduceEqDiff, ↓reduceIte, Nat.reduceAdd, Nat.reduceSub])
  refine AW.join (ι := Value × Value × Value × Nat × Nat × Nat) (fun _ => [(1, .v (ptv g0 0)), (2, .v (ptv g1 0)), (3, .v (ptv g2 0)), (4, .v (ptv g3 0)), (5, .v (ptv g4 0))]) (fun z => ⟨[(1, .nm (slv g0 1 c0) 67 [[.ro (W.map fun r => [.ro (r.map iv)])]]), (2, .nm (slv g1 1 c1) 23 [[.v (z.1)]]), (3, .nm (slv g2 1 c2) 23 [[.v (z.2.1)]]), (4, .nm (slv g3 1 c3) 23 [[.v (z.2.2.1)]]), (5, .nm (slv g4 1 c4) 3 [[.v (.int .i64 (W.length : Nat))]]), (z.2.2.2.1, .nm (z.1) 3 ((List.replicate W.length 0).map iv)), (z.2.2.2.2.1, .nm (z.2.1) 3 ((List.replicate W.length 0).map iv)), (z.2.2.2.2.2, .nm (z.2.2.1) 3 ((List.replicate W.length 0).map iv))], 12⟩) (fun z => (0 < W.length → ∃ g c, z.1 = slv g W.length c) ∧ (0 < W.length → ∃ g c, z.2.1 = slv g W.length c) ∧ (0 < W.length → ∃ g c, z.2.2.1 = slv g W.length c)) ?_ ?_
  ·
   refine AW.ax (FixL [(4, 5, .nm (slv g4 1 c4) 3 [[.v (.int .i64 (W.length : Nat))]])]) mix rfl ?_
   refine axR 0 rfl (fun T' ok => op_load_v 4 _ 0 0 rfl rfl ok.1 rfl ag3 sz3 rfl rfl rfl) ⟨rfl, trivial⟩ (by kernel_rfl) (by kernel_rfl) ?_; (try simp only [nA, Nat.reduceBEq, Nat.reduceEqDiff, ↓reduceIte, Nat.reduceAdd, Nat.reduceSub])
   refine axR 2 rfl (fun T' ok => op_load_v 4 _ 0 0 rfl rfl ok.1 rfl ag3 sz3 rfl rfl rfl) ⟨rfl, trivial⟩ (by kernel_rfl) (by kernel_rfl) ?_; (try simp only [nA, Nat.reduceBEq, Nat.reduceEqDiff, ↓reduceIte, Nat.reduceAdd, Nat.reduceSub])
   refine axR 4 rfl (fun T' ok => op_load_v 4 _ 0 0 rfl rfl ok.1 rfl ag3 sz3 rfl rfl rfl) ⟨rfl, trivial⟩ (by kernel_rfl) (by kernel_rfl) ?_; (try simp only [nA, Nat.reduceBEq, Nat.reduceEqDiff, ↓reduceIte, Nat.reduceAdd, Nat.reduceSub])
   refine ax3 1 3 5 (by kernel_rfl) ?_ ?_ ?_
   ·
    refine AXi.mk (i := 1) rfl (OpJ.nmS (OpJ.at 5 rfl (op_make rfl rfl rfl rfl rfl (Nat.le_refl _) Try.underlying23 ze3 (by omega) (by decide) (row := iv 0) rfl) rfl) rfl (by simp)) ?_; rintro _ _ ⟨u5, h5, rfl, rfl⟩; refine ⟨⟨rfl, trivial⟩, ?_⟩; (try simp only [nA, Nat.reduceBEq, Nat.reduceEqDiff, ↓reduceIte, Nat.reduceAdd, Nat.reduceSub])
    refine ax3 3 5 6 (by kernel_rfl) ?_ ?_ ?_
    ·
     refine AXi.mk (i := 3) rfl (OpJ.nmS (OpJ.at 6 rfl (op_make rfl rfl rfl rfl rfl (Nat.le_refl _) Try.underlying23 ze3 (by omega) (by decide) (row := iv 0) rfl) rfl) rfl (by simp)) ?_; rintro _ _ ⟨u6, h6, rfl, rfl⟩; refine ⟨⟨rfl, trivial⟩, ?_⟩; (try simp only [nA, Nat.reduceBEq, Nat.reduceEqDiff, ↓reduceIte, Nat.reduceAdd, Nat.reduceSub])
     refine ax2 5 6 (by kernel_rfl) ?_ ?_
     ·
      refine AXi.mk (i := 5) rfl (OpJ.nmS (OpJ.at 7 rfl (op_make rfl rfl rfl rfl rfl (Nat.le_refl _) Try.underlying23 ze3 (by omega) (by decide) (row := iv 0) rfl) rfl) rfl (by simp)) ?_; rintro _ _ ⟨u7, h7, rfl, rfl⟩; refine ⟨⟨rfl, trivial⟩, ?_⟩; (try simp only [nA, Nat.reduceBEq, Nat.reduceEqDiff, ↓reduceIte, Nat.reduceAdd, Nat.reduceSub])
      refine ax1 6 (by kernel_rfl) ?_
      ·
       refine AXi.mkJ (i := 6) rfl (op_store_v 1 _ 0 0 rfl rfl rfl rfl rfl rfl sz23 rfl sz23 rfl (Nat.le_of_ble_eq_true rfl) rfl rfl) ⟨rfl, trivial⟩ ?_; (try simp only [nA, Nat.reduceBEq, Nat.reduceEqDiff, ↓reduceIte, Nat.reduceAdd, Nat.reduceSub])
       refine ax1 7 (by kernel_rfl) ?_
       ·
        refine AXi.mkJ (i := 7) rfl (op_store_v 2 _ 0 0 rfl rfl rfl rfl rfl rfl sz23 rfl sz23 rfl (Nat.le_of_ble_eq_true rfl) rfl rfl) ⟨rfl, trivial⟩ ?_; (try simp only [nA, Nat.reduceBEq, Nat.reduceEqDiff, ↓reduceIte, Nat.reduceAdd, Nat.reduceSub])
        refine ax1 8 (by kernel_rfl) ?_
        ·
         refine AXi.mkJ (i := 8) rfl (op_store_v 3 _ 0 0 rfl rfl rfl rfl rfl rfl sz23 rfl sz23 rfl (Nat.le_of_ble_eq_true rfl) rfl rfl) ⟨rfl, trivial⟩ ?_; (try simp only [nA, Nat.reduceBEq, Nat.reduceEqDiff, ↓reduceIte, Nat.reduceAdd, Nat.reduceSub])
         refine axDone (by kernel_rfl) ?_; (try simp only [thenE, inBlk, Nat.reduceEqDiff, ↓reduceIte]); exact ⟨(u5, u6, u7, 9, 10, 11), ⟨h5, h6, h7⟩, ⟨rfl, rfl, rfl, rfl, rfl, trivial⟩, (by rw [List.map_replicate]; try rfl), (by first | rfl | trivial)⟩
     ·
      refine AXi.mkJ (i := 6) rfl (op_store_v 1 _ 0 0 rfl rfl rfl rfl rfl rfl sz23 rfl sz23 rfl (Nat.le_of_ble_eq_true rfl) rfl rfl) ⟨rfl, trivial⟩ ?_; (try simp only [nA, Nat.reduceBEq, Nat.reduceEqDiff, ↓reduceIte, Nat.reduceAdd, Nat.reduceSub])
      refine ax2 5 7 (by kernel_rfl) ?_ ?_
      ·
       refine AXi.mk (i := 5) rfl (OpJ.nmS (OpJ.at 7 rfl (op_make rfl rfl rfl rfl rfl (Nat.le_refl _) Try.underlying23 ze3 (by omega) (by decide) (row := iv 0) rfl) rfl) rfl (by simp)) ?_; rintro _ _ ⟨u7, h7, rfl, rfl⟩; refine ⟨⟨rfl, trivial⟩, ?_⟩; (try simp only [nA, Nat.reduceBEq, Nat.reduceEqDiff, ↓reduceIte, Nat.reduceAdd, Nat.reduceSub])
       refine ax1 7 (by kernel_rfl) ?_
       ·
        refine AXi.mkJ (i := 7) rfl (op_store_v 2 _ 0 0 rfl rfl rfl rfl rfl rfl sz23 rfl sz23 rfl (Nat.le_of_ble_eq_true rfl) rfl rfl) ⟨rfl, trivial⟩ ?_; (try simp only [nA, Nat.reduceBEq, Nat.reduceEqDiff, ↓reduceIte, Nat.reduceAdd, Nat.reduceSub])
        refine ax1 8 (by kernel_rfl) ?_
        ·
         refine AXi.mkJ (i := 8) rfl (op_store_v 3 _ 0 0 rfl rfl rfl rfl rfl rfl sz23 rfl sz23 rfl (Nat.le_of_ble_eq_true rfl) rfl rfl) ⟨rfl, trivial⟩ ?_; (try simp only [nA, Nat.reduceBEq, Nat.reduceEqDiff, ↓reduceIte, Nat.reduceAdd, Nat.reduceSub])
         refine axDone (by kernel_rfl) ?_; (try simp only [thenE, inBlk, Nat.reduceEqDiff, ↓reduceIte]); exact ⟨(u5, u6, u7, 9, 10, 11), ⟨h5, h6, h7⟩, ⟨rfl, rfl, rfl, rfl, rfl, trivial⟩, (by rw [List.map_replicate]; try rfl), (by first | rfl | trivial)⟩
      ·
       refine AXi.mkJ (i := 7) rfl (op_store_v 2 _ 0 0 rfl rfl rfl rfl rfl rfl sz23 rfl sz23 rfl (Nat.le_of_ble_eq_true rfl) rfl rfl) ⟨rfl, trivial⟩ ?_; (try simp only [nA, Nat.reduceBEq, Nat.reduceEqDiff, ↓reduceIte, Nat.reduceAdd, Nat.reduceSub])
       refine ax1 5 (by kernel_rfl) ?_
       ·
        refine AXi.mk (i := 5) rfl (OpJ.nmS (OpJ.at 7 rfl (op_make rfl rfl rfl rfl rfl (Nat.le_refl _) Try.underlying23 ze3 (by omega) (by decide) (row := iv 0) rfl) rfl) rfl (by simp)) ?_; rintro _ _ ⟨u7, h7, rfl, rfl⟩; refine ⟨⟨rfl, trivial⟩, ?_⟩; (try simp only [nA, Nat.reduceBEq, Nat.reduceEqDiff, ↓reduceIte, Nat.reduceAdd, Nat.reduceSub])
        refine ax1 8 (by kernel_rfl) ?_
        ·
         refine AXi.mkJ (i := 8) rfl (op_store_v 3 _ 0 0 rfl rfl rfl rfl rfl rfl sz23 rfl sz23 rfl (Nat.le_of_ble_eq_true rfl) rfl rfl) ⟨rfl, trivial⟩ ?_; (try simp only [nA, Nat.reduceBEq, Nat.reduceEqDiff, ↓reduceIte, Nat.reduceAdd, Nat.reduceSub])
         refine axDone (by kernel_rfl) ?_; (try simp only [thenE, inBlk, Nat.reduceEqDiff, ↓reduceIte]); exact ⟨(u5, u6, u7, 9, 10, 11), ⟨h5, h6, h7⟩, ⟨rfl, rfl, rfl, rfl, rfl, trivial⟩, (by rw [List.map_replicate]; try rfl), (by first | rfl | trivial)⟩
    ·
     refine AXi.mk (i := 5) rfl (OpJ.nmS (OpJ.at 7 rfl (op_make rfl rfl rfl rfl rfl (Nat.le_refl _) Try.underlying23 ze3 (by omega) (by decide) (row := iv 0) rfl) rfl) rfl (by simp)) ?_; rintro _ _ ⟨u7, h7, rfl, rfl⟩; refine ⟨⟨rfl, trivial⟩, ?_⟩; (try simp only [nA, Nat.reduceBEq, Nat.reduceEqDiff, ↓reduceIte, Nat.reduceAdd, Nat.reduceSub])
     refine ax2 3 6 (by kernel_rfl) ?_ ?_
     ·
      refine AXi.mk (i := 3) rfl (OpJ.nmS (OpJ.at 6 rfl (op_make rfl rfl rfl rfl rfl (Nat.le_refl _) Try.underlying23 ze3 (by omega) (by decide) (row := iv 0) rfl) rfl) rfl (by simp)) ?_; rintro _ _ ⟨u6, h6, rfl, rfl⟩; refine ⟨⟨rfl, trivial⟩, ?_⟩; (try simp only [nA, Nat.reduceBEq, Nat.reduceEqDiff, ↓reduceIte, Nat.reduceAdd, Nat.reduceSub])
      refine ax1 6 (by kernel_rfl) ?_
      ·
       refine AXi.mkJ (i := 6) rfl (op_store_v 1 _ 0 0 rfl rfl rfl rfl rfl rfl sz23 rfl sz23 rfl (Nat.le_of_ble_eq_true rfl) rfl rfl) ⟨rfl, trivial⟩ ?_; (try simp only [nA, Nat.reduceBEq, Nat.reduceEqDiff, ↓reduceIte, Nat.reduceAdd, Nat.reduceSub])
       refine ax1 7 (by kernel_rfl) ?_
       ·
        refine AXi.mkJ (i := 7) rfl (op_store_v 2 _ 0 0 rfl rfl rfl rfl rfl rfl sz23 rfl sz23 rfl (Nat.le_of_ble_eq_true rfl) rfl rfl) ⟨rfl, trivial⟩ ?_; (try simp only [nA, Nat.reduceBEq, Nat.reduceEqDiff, ↓reduceIte, Nat.reduceAdd, Nat.reduceSub])
        refine ax1 8 (by kernel_rfl) ?_
        ·
         refine AXi.mkJ (i := 8) rfl (op_store_v 3 _ 0 0 rfl rfl rfl rfl rfl rfl sz23 rfl sz23 rfl (Nat.le_of_ble_eq_true rfl) rfl rfl) ⟨rfl, trivial⟩ ?_; (try simp only [nA, Nat.reduceBEq, Nat.reduceEqDiff, ↓reduceIte, Nat.reduceAdd, Nat.reduceSub])
         refine axDone (by kernel_rfl) ?_; (try simp only [thenE, inBlk, Nat.reduceEqDiff, ↓reduceIte]); exact ⟨(u5, u6, u7, 9, 11, 10), ⟨h5, h6, h7⟩, ⟨rfl, rfl, rfl, rfl, rfl, trivial⟩, (by rw [List.map_replicate]; try rfl), (by first | rfl | trivial)⟩
     ·
      refine AXi.mkJ (i := 6) rfl (op_store_v 1 _ 0 0 rfl rfl rfl rfl rfl rfl sz23 rfl sz23 rfl (Nat.le_of_ble_eq_true rfl) rfl rfl) ⟨rfl, trivial⟩ ?_; (try simp only [nA, Nat.reduceBEq, Nat.reduceEqDiff, ↓reduceIte, Nat.reduceAdd, Nat.reduceSub])
      refine ax1 3 (by kernel_rfl) ?_
      ·
       refine AXi.mk (i := 3) rfl (OpJ.nmS (OpJ.at 6 rfl (op_make rfl rfl rfl rfl rfl (Nat.le_refl _) Try.underlying23 ze3 (by omega) (by decide) (row := iv 0) rfl) rfl) rfl (by simp)) ?_; rintro _ _ ⟨u6, h6, rfl, rfl⟩; refine ⟨⟨rfl, trivial⟩, ?_⟩; (try simp only [nA, Nat.reduceBEq, Nat.reduceEqDiff, ↓reduceIte, Nat.reduceAdd, Nat.reduceSub])
       refine ax1 7 (by kernel_rfl) ?_
       ·
        refine AXi.mkJ (i := 7) rfl (op_store_v 2 _ 0 0 rfl rfl rfl rfl rfl rfl sz23 rfl sz23 rfl (Nat.le_of_ble_eq_true rfl) rfl rfl) ⟨rfl, trivial⟩ ?_; (try simp only [nA, Nat.reduceBEq, Nat.reduceEqDiff, ↓reduceIte, Nat.reduceAdd, Nat.reduceSub])
        refine ax1 8 (by kernel_rfl) ?_
        ·
         refine AXi.mkJ (i := 8) rfl (op_store_v 3 _ 0 0 rfl rfl rfl rfl rfl rfl sz23 rfl sz23 rfl (Nat.le_of_ble_eq_true rfl) rfl rfl) ⟨rfl, trivial⟩ ?_; (try simp only [nA, Nat.reduceBEq, Nat.reduceEqDiff, ↓reduceIte, Nat.reduceAdd, Nat.reduceSub])
         refine axDone (by kernel_rfl) ?_; (try simp only [thenE, inBlk, Nat.reduceEqDiff, ↓reduceIte]); exact ⟨(u5, u6, u7, 9, 11, 10), ⟨h5, h6, h7⟩, ⟨rfl, rfl, rfl, rfl, rfl, trivial⟩, (by rw [List.map_replicate]; try rfl), (by first | rfl | trivial)⟩
    ·
     refine AXi.mkJ (i := 6) rfl (op_store_v 1 _ 0 0 rfl rfl rfl rfl rfl rfl sz23 rfl sz23 rfl (Nat.le_of_ble_eq_true rfl) rfl rfl) ⟨rfl, trivial⟩ ?_; (try simp only [nA, Nat.reduceBEq, Nat.reduceEqDiff, ↓reduceIte, Nat.reduceAdd, Nat.reduceSub])
     refine ax2 3 5 (by kernel_rfl) ?_ ?_
     ·
      refine AXi.mk (i := 3) rfl (OpJ.nmS (OpJ.at 6 rfl (op_make rfl rfl rfl rfl rfl (Nat.le_refl _) Try.underlying23 ze3 (by omega) (by decide) (row := iv 0) rfl) rfl) rfl (by simp)) ?_; rintro _ _ ⟨u6, h6, rfl, rfl⟩; refine ⟨⟨rfl, trivial⟩, ?_⟩; (try simp only [nA, Nat.reduceBEq, Nat.reduceEqDiff, ↓reduceIte, Nat.reduceAdd, Nat.reduceSub])
      refine ax2 5 7 (by kernel_rfl) ?_ ?_
      ·
       refine AXi.mk (i := 5) rfl (OpJ.nmS (OpJ.at 7 rfl (op_make rfl rfl rfl rfl rfl (Nat.le_refl _) Try.underlying23 ze3 (by omega) (by decide) (row := iv 0) rfl) rfl) rfl (by simp)) ?_; rintro _ _ ⟨u7, h7, rfl, rfl⟩; refine ⟨⟨rfl, trivial⟩, ?_⟩; (try simp only [nA, Nat.reduceBEq, Nat.reduceEqDiff, ↓reduceIte, Nat.reduceAdd, Nat.reduceSub])
       refine ax1 7 (by kernel_rfl) ?_
       ·
        refine AXi.mkJ (i := 7) rfl (op_store_v 2 _ 0 0 rfl rfl rfl rfl rfl rfl sz23 rfl sz23 rfl (Nat.le_of_ble_eq_true rfl) rfl rfl) ⟨rfl, trivial⟩ ?_; (try simp only [nA, Nat.reduceBEq, Nat.reduceEqDiff, ↓reduceIte, Nat.reduceAdd, Nat.reduceSub])
        refine ax1 8 (by kernel_rfl) ?_
        ·
         refine AXi.mkJ (i := 8) rfl (op_store_v 3 _ 0 0 rfl rfl rfl rfl rfl rfl sz23 rfl sz23 rfl (Nat.le_of_ble_eq_true rfl) rfl rfl) ⟨rfl, trivial⟩ ?_; (try simp only [nA, Nat.reduceBEq, Nat.reduceEqDiff, ↓reduceIte, Nat.reduceAdd, Nat.reduceSub])
         refine axDone (by kernel_rfl) ?_; (try simp only [thenE, inBlk, Nat.reduceEqDiff, ↓reduceIte]); exact ⟨(u5, u6, u7, 9, 10, 11), ⟨h5, h6, h7⟩, ⟨rfl, rfl, rfl, rfl, rfl, trivial⟩, (by rw [List.map_replicate]; try rfl), (by first | rfl | trivial)⟩
      ·
       refine AXi.mkJ (i := 7) rfl (op_store_v 2 _ 0 0 rfl rfl rfl rfl rfl rfl sz23 rfl sz23 rfl (Nat.le_of_ble_eq_true rfl) rfl rfl) ⟨rfl, trivial⟩ ?_; (try simp only [nA, Nat.reduceBEq, Nat.reduceEqDiff, ↓reduceIte, Nat.reduceAdd, Nat.reduceSub])
       refine ax1 5 (by kernel_rfl) ?_
       ·
        refine AXi.mk (i := 5) rfl (OpJ.nmS (OpJ.at 7 rfl (op_make rfl rfl rfl rfl rfl (Nat.le_refl _) Try.underlying23 ze3 (by omega) (by decide) (row := iv 0) rfl) rfl) rfl (by simp)) ?_; rintro _ _ ⟨u7, h7, rfl, rfl⟩; refine ⟨⟨rfl, trivial⟩, ?_⟩; (try simp only [nA, Nat.reduceBEq, Nat.reduceEqDiff, ↓reduceIte, Nat.reduceAdd, Nat.reduceSub])
        refine ax1 8 (by kernel_rfl) ?_
        ·
         refine AXi.mkJ (i := 8) rfl (op_store_v 3 _ 0 0 rfl rfl rfl rfl rfl rfl sz23 rfl sz23 rfl (Nat.le_of_ble_eq_true rfl) rfl rfl) ⟨rfl, trivial⟩ ?_; (try simp only [nA, Nat.reduceBEq, Nat.reduceEqDiff, ↓reduceIte, Nat.reduceAdd, Nat.reduceSub])
         refine axDone (by kernel_rfl) ?_; (try simp only [thenE, inBlk, Nat.reduceEqDiff, ↓reduceIte]); exact ⟨(u5, u6, u7, 9, 10, 11), ⟨h5, h6, h7⟩, ⟨rfl, rfl, rfl, rfl, rfl, trivial⟩, (by rw [List.map_replicate]; try rfl), (by first | rfl | trivial)⟩
     ·
      refine AXi.mk (i := 5) rfl (OpJ.nmS (OpJ.at 7 rfl (op_make rfl rfl rfl rfl rfl (Nat.le_refl _) Try.underlying23 ze3 (by omega) (by decide) (row := iv 0) rfl) rfl) rfl (by simp)) ?_; rintro _ _ ⟨u7, h7, rfl, rfl⟩; refine ⟨⟨rfl, trivial⟩, ?_⟩; (try simp only [nA, Nat.reduceBEq, Nat.reduceEqDiff, ↓reduceIte, Nat.reduceAdd, Nat.reduceSub])
      refine ax1 3 (by kernel_rfl) ?_
      ·
       refine AXi.mk (i := 3) rfl (OpJ.nmS (OpJ.at 6 rfl (op_make rfl rfl rfl rfl rfl (Nat.le_refl _) Try.underlying23 ze3 (by omega) (by decide) (row := iv 0) rfl) rfl) rfl (by simp)) ?_; rintro _ _ ⟨u6, h6, rfl, rfl⟩; refine ⟨⟨rfl, trivial⟩, ?_⟩; (try simp only [nA, Nat.reduceBEq, Nat.reduceEqDiff, ↓reduceIte, Nat.reduceAdd, Nat.reduceSub])
       refine ax1 7 (by kernel_rfl) ?_
       ·
        refine AXi.mkJ (i := 7) rfl (op_store_v 2 _ 0 0 rfl rfl rfl rfl rfl rfl sz23 rfl sz23 rfl (Nat.le_of_ble_eq_true rfl) rfl rfl) ⟨rfl, trivial⟩ ?_; (try simp only [nA, Nat.reduceBEq, Nat.reduceEqDiff, ↓reduceIte, Nat.reduceAdd, Nat.reduceSub])
        refine ax1 8 (by kernel_rfl) ?_
        ·
         refine AXi.mkJ (i := 8) rfl (op_store_v 3 _ 0 0 rfl rfl rfl rfl rfl rfl sz23 rfl sz23 rfl (Nat.le_of_ble_eq_true rfl) rfl rfl) ⟨rfl, trivial⟩ ?_; (try simp only [nA, Nat.reduceBEq, Nat.reduceEqDiff, ↓reduceIte, Nat.reduceAdd, Nat.reduceSub])
         refine axDone (by kernel_rfl) ?_; (try simp only [thenE, inBlk, Nat.reduceEqDiff, ↓reduceIte]); exact ⟨(u5, u6, u7, 9, 11, 10), ⟨h5, h6, h7⟩, ⟨rfl, rfl, rfl, rfl, rfl, trivial⟩, (by rw [List.map_replicate]; try rfl), (by first | rfl | trivial)⟩
   ·
    refine AXi.mk (i := 3) rfl (OpJ.nmS (OpJ.at 6 rfl (op_make rfl rfl rfl rfl rfl (Nat.le_refl _) Try.underlying23 ze3 (by omega) (by decide) (row := iv 0) rfl) rfl) rfl (by simp)) ?_; rintro _ _ ⟨u6, h6, rfl, rfl⟩; refine ⟨⟨rfl, trivial⟩, ?_⟩; (try simp only [nA, Nat.reduceBEq, Nat.reduceEqDiff, ↓reduceIte, Nat.reduceAdd, Nat.reduceSub])
    refine ax2 1 5 (by kernel_rfl) ?_ ?_
    ·
     refine AXi.mk (i := 1) rfl (OpJ.nmS (OpJ.at 5 rfl (op_make rfl rfl rfl rfl rfl (Nat.le_refl _) Try.underlying23 ze3 (by omega) (by decide) (row := iv 0) rfl) rfl) rfl (by simp)) ?_; rintro _ _ ⟨u5, h5, rfl, rfl⟩; refine ⟨⟨rfl, trivial⟩, ?_⟩; (try simp only [nA, Nat.reduceBEq, Nat.reduceEqDiff, ↓reduceIte, Nat.reduceAdd, Nat.reduceSub])
     refine ax2 5 6 (by kernel_rfl) ?_ ?_
     ·
      refine AXi.mk (i := 5) rfl (OpJ.nmS (OpJ.at 7 rfl (op_make rfl rfl rfl rfl rfl (Nat.le_refl _) Try.underlying23 ze3 (by omega) (by decide) (row := iv 0) rfl) rfl) rfl (by simp)) ?_; rintro _ _ ⟨u7, h7, rfl, rfl⟩; refine ⟨⟨rfl, trivial⟩, ?_⟩; (try simp only [nA, Nat.reduceBEq, Nat.reduceEqDiff, ↓reduceIte, Nat.reduceAdd, Nat.reduceSub])
      refine ax1 6 (by kernel_rfl) ?_
      ·
       refine AXi.mkJ (i := 6) rfl (op_store_v 1 _ 0 0 rfl rfl rfl rfl rfl rfl sz23 rfl sz23 rfl (Nat.le_of_ble_eq_true rfl) rfl rfl) ⟨rfl, trivial⟩ ?_; (try simp only [nA, Nat.reduceBEq, Nat.reduceEqDiff, ↓reduceIte, Nat.reduceAdd, Nat.reduceSub])
       refine ax1 7 (by kernel_rfl) ?_
       ·
        refine AXi.mkJ (i := 7) rfl (op_store_v 2 _ 0 0 rfl rfl rfl rfl rfl rfl sz23 rfl sz23 rfl (Nat.le_of_ble_eq_true rfl) rfl rfl) ⟨rfl, trivial⟩ ?_; (try simp only [nA, Nat.reduceBEq, Nat.reduceEqDiff, ↓reduceIte, Nat.reduceAdd, Nat.reduceSub])
        refine ax1 8 (by kernel_rfl) ?_
        ·
         refine AXi.mkJ (i := 8) rfl (op_store_v 3 _ 0 0 rfl rfl rfl rfl rfl rfl sz23 rfl sz23 rfl (Nat.le_of_ble_eq_true rfl) rfl rfl) ⟨rfl, trivial⟩ ?_; (try simp only [nA, Nat.reduceBEq, Nat.reduceEqDiff, ↓reduceIte, Nat.reduceAdd, Nat.reduceSub])
         refine axDone (by kernel_rfl) ?_; (try simp only [thenE, inBlk, Nat.reduceEqDiff, ↓reduceIte]); exact ⟨(u5, u6, u7, 10, 9, 11), ⟨h5, h6, h7⟩, ⟨rfl, rfl, rfl, rfl, rfl, trivial⟩, (by rw [List.map_replicate]; try rfl), (by first | rfl | trivial)⟩
     ·
      refine AXi.mkJ (i := 6) rfl (op_store_v 1 _ 0 0 rfl rfl rfl rfl rfl rfl sz23 rfl sz23 rfl (Nat.le_of_ble_eq_true rfl) rfl rfl) ⟨rfl, trivial⟩ ?_; (try simp only [nA, Nat.reduceBEq, Nat.reduceEqDiff, ↓reduceIte, Nat.reduceAdd, Nat.reduceSub])
      refine ax2 5 7 (by kernel_rfl) ?_ ?_
      ·
       refine AXi.mk (i := 5) rfl (OpJ.nmS (OpJ.at 7 rfl (op_make rfl rfl rfl rfl rfl (Nat.le_refl _) Try.underlying23 ze3 (by omega) (by decide) (row := iv 0) rfl) rfl) rfl (by simp)) ?_; rintro _ _ ⟨u7, h7, rfl, rfl⟩; refine ⟨⟨rfl, trivial⟩, ?_⟩; (try simp only [nA, Nat.reduceBEq, Nat.reduceEqDiff, ↓reduceIte, Nat.reduceAdd, Nat.reduceSub])
       refine ax1 7 (by kernel_rfl) ?_
       ·
        refine AXi.mkJ (i := 7) rfl (op_store_v 2 _ 0 0 rfl rfl rfl rfl rfl rfl sz23 rfl sz23 rfl (Nat.le_of_ble_eq_true rfl) rfl rfl) ⟨rfl, trivial⟩ ?_; (try simp only [nA, Nat.reduceBEq, Nat.reduceEqDiff, ↓reduceIte, Nat.reduceAdd, Nat.reduceSub])
        refine ax1 8 (by kernel_rfl) ?_
        ·
         refine AXi.mkJ (i := 8) rfl (op_store_v 3 _ 0 0 rfl rfl rfl rfl rfl rfl sz23 rfl sz23 rfl (Nat.le_of_ble_eq_true rfl) rfl rfl) ⟨rfl, trivial⟩ ?_; (try simp only [nA, Nat.reduceBEq, Nat.reduceEqDiff, ↓reduceIte, Nat.reduceAdd, Nat.reduceSub])
         refine axDone (by kernel_rfl) ?_; (try simp only [thenE, inBlk, Nat.reduceEqDiff, ↓reduceIte]); exact ⟨(u5, u6, u7, 10, 9, 11), ⟨h5, h6, h7⟩, ⟨rfl, rfl, rfl, rfl, rfl, trivial⟩, (by rw [List.map_replicate]; try rfl), (by first | rfl | trivial)⟩
      ·
       refine AXi.mkJ (i := 7) rfl (op_store_v 2 _ 0 0 rfl rfl rfl rfl rfl rfl sz23 rfl sz23 rfl (Nat.le_of_ble_eq_true rfl) rfl rfl) ⟨rfl, trivial⟩ ?_; (try simp only [nA, Nat.reduceBEq, Nat.reduceEqDiff, ↓reduceIte, Nat.reduceAdd, Nat.reduceSub])
       refine ax1 5 (by kernel_rfl) ?_
       ·
        refine AXi.mk (i := 5) rfl (OpJ.nmS (OpJ.at 7 rfl (op_make rfl rfl rfl rfl rfl (Nat.le_refl _) Try.underlying23 ze3 (by omega) (by decide) (row := iv 0) rfl) rfl) rfl (by simp)) ?_; rintro _ _ ⟨u7, h7, rfl, rfl⟩; refine ⟨⟨rfl, trivial⟩, ?_⟩; (try simp only [nA, Nat.reduceBEq, Nat.reduceEqDiff, ↓reduceIte, Nat.reduceAdd, Nat.reduceSub])
        refine ax1 8 (by kernel_rfl) ?_
        ·
         refine AXi.mkJ (i := 8) rfl (op_store_v 3 _ 0 0 rfl rfl rfl rfl rfl rfl sz23 rfl sz23 rfl (Nat.le_of_ble_eq_true rfl) rfl rfl) ⟨rfl, trivial⟩ ?_; (try simp only [nA, Nat.reduceBEq, Nat.reduceEqDiff, ↓reduceIte, Nat.reduceAdd, Nat.reduceSub])
         refine axDone (by kernel_rfl) ?_; (try simp only [thenE, inBlk, Nat.reduceEqDiff, ↓reduceIte]); exact ⟨(u5, u6, u7, 10, 9, 11), ⟨h5, h6, h7⟩, ⟨rfl, rfl, rfl, rfl, rfl, trivial⟩, (by rw [List.map_replicate]; try rfl), (by first | rfl | trivial)⟩
    ·
     refine AXi.mk (i := 5) rfl (OpJ.nmS (OpJ.at 7 rfl (op_make rfl rfl rfl rfl rfl (Nat.le_refl _) Try.underlying23 ze3 (by omega) (by decide) (row := iv 0) rfl) rfl) rfl (by simp)) ?_; rintro _ _ ⟨u7, h7, rfl, rfl⟩; refine ⟨⟨rfl, trivial⟩, ?_⟩; (try simp only [nA, Nat.reduceBEq, Nat.reduceEqDiff, ↓reduceIte, Nat.reduceAdd, Nat.reduceSub])
     refine ax1 1 (by kernel_rfl) ?_
     ·
      refine AXi.mk (i := 1) rfl (OpJ.nmS (OpJ.at 5 rfl (op_make rfl rfl rfl rfl rfl (Nat.le_refl _) Try.underlying23 ze3 (by omega) (by decide) (row := iv 0) rfl) rfl) rfl (by simp)) ?_; rintro _ _ ⟨u5, h5, rfl, rfl⟩; refine ⟨⟨rfl, trivial⟩, ?_⟩; (try simp only [nA, Nat.reduceBEq, Nat.reduceEqDiff, ↓reduceIte, Nat.reduceAdd, Nat.reduceSub])
      refine ax1 6 (by kernel_rfl) ?_
      ·
       refine AXi.mkJ (i := 6) rfl (op_store_v 1 _ 0 0 rfl rfl rfl rfl rfl rfl sz23 rfl sz23 rfl (Nat.le_of_ble_eq_true rfl) rfl rfl) ⟨rfl, trivial⟩ ?_; (try simp only [nA, Nat.reduceBEq, Nat.reduceEqDiff, ↓reduceIte, Nat.reduceAdd, Nat.reduceSub])
       refine ax1 7 (by kernel_rfl) ?_
       ·
        refine AXi.mkJ (i := 7) rfl (op_store_v 2 _ 0 0 rfl rfl rfl rfl rfl rfl sz23 rfl sz23 rfl (Nat.le_of_ble_eq_true rfl) rfl rfl) ⟨rfl, trivial⟩ ?_; (try simp only [nA, Nat.reduceBEq, Nat.reduceEqDiff, ↓reduceIte, Nat.reduceAdd, Nat.reduceSub])
        refine ax1 8 (by kernel_rfl) ?_
        ·
         refine AXi.mkJ (i := 8) rfl (op_store_v 3 _ 0 0 rfl rfl rfl rfl rfl rfl sz23 rfl sz23 rfl (Nat.le_of_ble_eq_true rfl) rfl rfl) ⟨rfl, trivial⟩ ?_; (try simp only [nA, Nat.reduceBEq, Nat.reduceEqDiff, ↓reduceIte, Nat.reduceAdd, Nat.reduceSub])
         refine axDone (by kernel_rfl) ?_; (try simp only [thenE, inBlk, Nat.reduceEqDiff, ↓reduceIte]); exact ⟨(u5, u6, u7, 11, 9, 10), ⟨h5, h6, h7⟩, ⟨rfl, rfl, rfl, rfl, rfl, trivial⟩, (by rw [List.map_replicate]; try rfl), (by first | rfl | trivial)⟩
   ·
    refine AXi.mk (i := 5) rfl (OpJ.nmS (OpJ.at 7 rfl (op_make rfl rfl rfl rfl rfl (Nat.le_refl _) Try.underlying23 ze3 (by omega) (by decide) (row := iv 0) rfl) rfl) rfl (by simp)) ?_; rintro _ _ ⟨u7, h7, rfl, rfl⟩; refine ⟨⟨rfl, trivial⟩, ?_⟩; (try simp only [nA, Nat.reduceBEq, Nat.reduceEqDiff, ↓reduceIte, Nat.reduceAdd, Nat.reduceSub])
    refine ax2 1 3 (by kernel_rfl) ?_ ?_
    ·
     refine AXi.mk (i := 1) rfl (OpJ.nmS (OpJ.at 5 rfl (op_make rfl rfl rfl rfl rfl (Nat.le_refl _) Try.underlying23 ze3 (by omega) (by decide) (row := iv 0) rfl) rfl) rfl (by simp)) ?_; rintro _ _ ⟨u5, h5, rfl, rfl⟩; refine ⟨⟨rfl, trivial⟩, ?_⟩; (try simp only [nA, Nat.reduceBEq, Nat.reduceEqDiff, ↓reduceIte, Nat.reduceAdd, Nat.reduceSub])
     refine ax2 3 6 (by kernel_rfl) ?_ ?_
     ·
      refine AXi.mk (i := 3) rfl (OpJ.nmS (OpJ.at 6 rfl (op_make rfl rfl rfl rfl rfl (Nat.le_refl _) Try.underlying23 ze3 (by omega) (by decide) (row := iv 0) rfl) rfl) rfl (by simp)) ?_; rintro _ _ ⟨u6, h6, rfl, rfl⟩; refine ⟨⟨rfl, trivial⟩, ?_⟩; (try simp only [nA, Nat.reduceBEq, Nat.reduceEqDiff, ↓reduceIte, Nat.reduceAdd, Nat.reduceSub])
      refine ax1 6 (by kernel_rfl) ?_
      ·
       refine AXi.mkJ (i := 6) rfl (op_store_v 1 _ 0 0 rfl rfl rfl rfl rfl rfl sz23 rfl sz23 rfl (Nat.le_of_ble_eq_true rfl) rfl rfl) ⟨rfl, trivial⟩ ?_; (try simp only [nA, Nat.reduceBEq, Nat.reduceEqDiff, ↓reduceIte, Nat.reduceAdd, Nat.reduceSub])
       refine ax1 7 (by kernel_rfl) ?_
       ·
        refine AXi.mkJ (i := 7) rfl (op_store_v 2 _ 0 0 rfl rfl rfl rfl rfl rfl sz23 rfl sz23 rfl (Nat.le_of_ble_eq_true rfl) rfl rfl) ⟨rfl, trivial⟩ ?_; (try simp only [nA, Nat.reduceBEq, Nat.reduceEqDiff, ↓reduceIte, Nat.reduceAdd, Nat.reduceSub])
        refine ax1 8 (by kernel_rfl) ?_
        ·
         refine AXi.mkJ (i := 8) rfl (op_store_v 3 _ 0 0 rfl rfl rfl rfl rfl rfl sz23 rfl sz23 rfl (Nat.le_of_ble_eq_true rfl) rfl rfl) ⟨rfl, trivial⟩ ?_; (try simp only [nA, Nat.reduceBEq, Nat.reduceEqDiff, ↓reduceIte, Nat.reduceAdd, Nat.reduceSub])
         refine axDone (by kernel_rfl) ?_; (try simp only [thenE, inBlk, Nat.reduceEqDiff, ↓reduceIte]); exact ⟨(u5, u6, u7, 10, 11, 9), ⟨h5, h6, h7⟩, ⟨rfl, rfl, rfl, rfl, rfl, trivial⟩, (by rw [List.map_replicate]; try rfl), (by first | rfl | trivial)⟩
     ·
      refine AXi.mkJ (i := 6) rfl (op_store_v 1 _ 0 0 rfl rfl rfl rfl rfl rfl sz23 rfl sz23 rfl (Nat.le_of_ble_eq_true rfl) rfl rfl) ⟨rfl, trivial⟩ ?_; (try simp only [nA, Nat.reduceBEq, Nat.reduceEqDiff, ↓reduceIte, Nat.reduceAdd, Nat.reduceSub])
      refine ax1 3 (by kernel_rfl) ?_
      ·
       refine AXi.mk (i := 3) rfl (OpJ.nmS (OpJ.at 6 rfl (op_make rfl rfl rfl rfl rfl (Nat.le_refl _) Try.underlying23 ze3 (by omega) (by decide) (row := iv 0) rfl) rfl) rfl (by simp)) ?_; rintro _ _ ⟨u6, h6, rfl, rfl⟩; refine ⟨⟨rfl, trivial⟩, ?_⟩; (try simp only [nA, Nat.reduceBEq, Nat.reduceEqDiff, ↓reduceIte, Nat.reduceAdd, Nat.reduceSub])
       refine ax1 7 (by kernel_rfl) ?_
       ·
        refine AXi.mkJ (i := 7) rfl (op_store_v 2 _ 0 0 rfl rfl rfl rfl rfl rfl sz23 rfl sz23 rfl (Nat.le_of_ble_eq_true rfl) rfl rfl) ⟨rfl, trivial⟩ ?_; (try simp only [nA, Nat.reduceBEq, Nat.reduceEqDiff, ↓reduceIte, Nat.reduceAdd, Nat.reduceSub])
        refine ax1 8 (by kernel_rfl) ?_
        ·
         refine AXi.mkJ (i := 8) rfl (op_store_v 3 _ 0 0 rfl rfl rfl rfl rfl rfl sz23 rfl sz23 rfl (Nat.le_of_ble_eq_true rfl) rfl rfl) ⟨rfl, trivial⟩ ?_; (try simp only [nA, Nat.reduceBEq, Nat.reduceEqDiff, ↓reduceIte, Nat.reduceAdd, Nat.reduceSub])
         refine axDone (by kernel_rfl) ?_; (try simp only [thenE, inBlk, Nat.reduceEqDiff, ↓reduceIte]); exact ⟨(u5, u6, u7, 10, 11, 9), ⟨h5, h6, h7⟩, ⟨rfl, rfl, rfl, rfl, rfl, trivial⟩, (by rw [List.map_replicate]; try rfl), (by first | rfl | trivial)⟩
    ·
     refine AXi.mk (i := 3) rfl (OpJ.nmS (OpJ.at 6 rfl (op_make rfl rfl rfl rfl rfl (Nat.le_refl _) Try.underlying23 ze3 (by omega) (by decide) (row := iv 0) rfl) rfl) rfl (by simp)) ?_; rintro _ _ ⟨u6, h6, rfl, rfl⟩; refine ⟨⟨rfl, trivial⟩, ?_⟩; (try simp only [nA, Nat.reduceBEq, Nat.reduceEqDiff, ↓reduceIte, Nat.reduceAdd, Nat.reduceSub])
     refine ax1 1 (by kernel_rfl) ?_
     ·
      refine AXi.mk (i := 1) rfl (OpJ.nmS (OpJ.at 5 rfl (op_make rfl rfl rfl rfl rfl (Nat.le_refl _) Try.underlying23 ze3 (by omega) (by decide) (row := iv 0) rfl) rfl) rfl (by simp)) ?_; rintro _ _ ⟨u5, h5, rfl, rfl⟩; refine ⟨⟨rfl, trivial⟩, ?_⟩; (try simp only [nA, Nat.reduceBEq, Nat.reduceEqDiff, ↓reduceIte, Nat.reduceAdd, Nat.reduceSub])
      refine ax1 6 (by kernel_rfl) ?_
      ·
       refine AXi.mkJ (i := 6) rfl (op_store_v 1 _ 0 0 rfl rfl rfl rfl rfl rfl sz23 rfl sz23 rfl (Nat.le_of_ble_eq_true rfl) rfl rfl) ⟨rfl, trivial⟩ ?_; (try simp only [nA, Nat.reduceBEq, Nat.reduceEqDiff, ↓reduceIte, Nat.reduceAdd, Nat.reduceSub])
       refine ax1 7 (by kernel_rfl) ?_
       ·
        refine AXi.mkJ (i := 7) rfl (op_store_v 2 _ 0 0 rfl rfl rfl rfl rfl rfl sz23 rfl sz23 rfl (Nat.le_of_ble_eq_true rfl) rfl rfl) ⟨rfl, trivial⟩ ?_; (try simp only [nA, Nat.reduceBEq, Nat.reduceEqDiff, ↓reduceIte, Nat.reduceAdd, Nat.reduceSub])
        refine ax1 8 (by kernel_rfl) ?_
        ·
         refine AXi.mkJ (i := 8) rfl (op_store_v 3 _ 0 0 rfl rfl rfl rfl rfl rfl sz23 rfl sz23 rfl (Nat.le_of_ble_eq_true rfl) rfl rfl) ⟨rfl, trivial⟩ ?_; (try simp only [nA, Nat.reduceBEq, Nat.reduceEqDiff, ↓reduceIte, Nat.reduceAdd, Nat.reduceSub])
         refine axDone (by kernel_rfl) ?_; (try simp only [thenE, inBlk, Nat.reduceEqDiff, ↓reduceIte]); exact ⟨(u5, u6, u7, 11, 10, 9), ⟨h5, h6, h7⟩, ⟨rfl, rfl, rfl, rfl, rfl, trivial⟩, (by rw [List.map_replicate]; try rfl), (by first | rfl | trivial)⟩
  rintro ⟨u5, u6, u7, k5, k6, k7⟩ ρ0 ⟨h5, h6, h7⟩; dsimp only at h5 h6 h7; simp only [updL]; (try simp only [nA, Nat.reduceBEq, Nat.reduceEqDiff, ↓reduceIte, Nat.reduceAdd, Nat.reduceSub])
  (refine AW.seq_k ?_; intro K hK)
  (refine AW.seq_k ?_; intro K hK)
  refine AW.region ?_
  refine awR (op_load_v 0 _ 0 0 rfl rfl rfl rfl ag67 sz67 rfl rfl rfl) ?_; (try simp only [nA, Nat.reduceBEq, Nat.reduceEqDiff, ↓reduceIte, Nat.reduceAdd, Nat.reduceSub])
  (first | refine awP (op_len_ro rfl rfl Try.underlying67 (by first | exact .inr (.inl ⟨_, rfl, rfl⟩) | exact .inl rfl | exact .inr (.inr (.inl ⟨_, rfl, rfl⟩)) | exact .inr (.inr (.inr ⟨rfl, rfl⟩)))) ?_ | refine awP (op_len_sl rfl rfl rfl Try.underlying67) ?_ | refine awP (op_len_str rfl rfl Try.underlying67) ?_); (try simp only [nA, Nat.reduceBEq, Nat.reduceEqDiff, ↓reduceIte, Nat.reduceAdd, Nat.reduceSub])
  refine awP (op_move rfl rfl) ?_; (try simp only [nA, Nat.reduceBEq, Nat.reduceEqDiff, ↓reduceIte, Nat.reduceAdd, Nat.reduceSub])
  refine AWL.nil ?_
  (refine hK _ ?_; clear hK K; (try simp only [nA, Nat.reduceBEq, Nat.reduceEqDiff, ↓reduceIte, Nat.reduceAdd, Nat.reduceSub]))
  refine AW.block ?_
  refine AW.loopI (ι := Nat) (fun i => [(1, .v (ptv g0 0)), (2, .v (ptv g1 0)), (3, .v (ptv g2 0)), (4, .v (ptv g3 0)), (5, .v (ptv g4 0)), (26, .v (.int .i64 (W.length : Nat))), (27, .v (.int .i64 (i : Nat)))]) (fun i => ⟨[(1, .nm (slv g0 1 c0) 67 [[.ro (W.map fun r => [.ro (r.map iv)])]]), (2, .nm (slv g1 1 c1) 23 [[.v (u5)]]), (3, .nm (slv g2 1 c2) 23 [[.v (u6)]]), (4, .nm (slv g3 1 c3) 23 [[.v (u7)]]), (5, .nm (slv g4 1 c4) 3 [[.v (.int .i64 (W.length : Nat))]]), (k5, .nm (u5) 3 ((mxl i (List.replicate W.length 0) (List.replicate W.length (-1))).map iv)), (k6, .nm (u6) 3 ((mxl i (List.replicate W.length 0) (rows0 W)).map iv)), (k7, .nm (u7) 3 ((List.replicate W.length 0).map iv))], 12⟩) (fun i => i ≤ W.length) (fun i => W.length - i) 0 (by simp) ⟨rfl, rfl, rfl, rfl, rfl, (by simp; rfl), rfl, trivial⟩ (by simp only [mxl_zero]) ?_; intro i ρ hI; simp only [updL]; (try simp only [nA, Nat.reduceBEq, Nat.reduceEqDiff, ↓reduceIte, Nat.reduceAdd, Nat.reduceSub])
  (refine AW.seq_k ?_; intro K hK)
  refine AW.region ?_
  refine awP (op_lss rfl rfl rfl) ?_; (try simp only [nA, Nat.reduceBEq, Nat.reduceEqDiff, ↓reduceIte, Nat.reduceAdd, Nat.reduceSub])
  refine AWL.nil ?_
  (refine hK _ ?_; clear hK K; (try simp only [nA, Nat.reduceBEq, Nat.reduceEqDiff, ↓reduceIte, Nat.reduceAdd, Nat.reduceSub]))
  (refine AW.seq_k ?_; intro K hK)
  refine AW.cond rfl rfl rfl (fun hc => ?_) (fun hc => ?_)
  ·
   (try simp only [hcS] at hc); have hc1 := hc; have hi : i < W.length := (by omega); have hwr := hW.wr i hi; obtain ⟨g5, c5, rfl⟩ := h5 (by omega); obtain ⟨g6, c6, rfl⟩ := h6 (by omega); obtain ⟨g7, c7, rfl⟩ := h7 (by omega); have htl : i < (mxl i (List.replicate W.length 0) (List.replicate W.length (-1))).length := (by rw [mxl_len (by simp)]; simpa using hi); have hst5 : (mxl i (List.replicate W.length 0) (List.replicate W.length (-1))).set i (-1) = mxl (i + 1) (List.replicate W.length 0) (List.replicate W.length (-1)) := mxl_set (by simp) (by simpa using hi) (gI_rep hi).symm
   refine AW.skip ?_
   (refine hK _ ?_; clear hK K; (try simp only [nA, Nat.reduceBEq, Nat.reduceEqDiff, ↓reduceIte, Nat.reduceAdd, Nat.reduceSub]))
   (refine AW.seq_k ?_; intro K hK)
   refine AW.block ?_
   (refine AW.seq_k ?_; intro K hK)
   refine AW.region ?_
   refine awP (op_move rfl rfl) ?_; (try simp only [nA, Nat.reduceBEq, Nat.reduceEqDiff, ↓reduceIte, Nat.reduceAdd, Nat.reduceSub])
   refine awP (op_assign rfl rfl) ?_; (try simp only [nA, Nat.reduceBEq, Nat.reduceEqDiff, ↓reduceIte, Nat.reduceAdd, Nat.reduceSub])
   refine AWL.nil ?_
   (refine hK _ ?_; clear hK K; (try simp only [nA, Nat.reduceBEq, Nat.reduceEqDiff, ↓reduceIte, Nat.reduceAdd, Nat.reduceSub]))
   (refine AW.seq_k ?_; intro K hK)
   refine AW.region ?_
   refine awR (op_load_v 1 _ 0 0 rfl rfl rfl rfl ag23 sz23 rfl rfl rfl) ?_; (try simp only [nA, Nat.reduceBEq, Nat.reduceEqDiff, ↓reduceIte, Nat.reduceAdd, Nat.reduceSub])
   refine awP (op_move rfl rfl) ?_; (try simp only [nA, Nat.reduceBEq, Nat.reduceEqDiff, ↓reduceIte, Nat.reduceAdd, Nat.reduceSub])
   refine awP (op_ia_v i 1 rfl rfl rfl Try.underlying23 rfl hi sz3 (Nat.mul_one _)) ?_; (try simp only [nA, Nat.reduceBEq, Nat.reduceEqDiff, ↓reduceIte, Nat.reduceAdd, Nat.reduceSub])
   refine awJ (op_store_v 5 _ i 0 rfl rfl rfl rfl (gI_mapD htl) rfl sz3 rfl sz3 (by simp) (Nat.le_of_ble_eq_true rfl) (set_iv.trans (congrArg (fun l => l.map iv) hst5)) rfl) ?_; (try simp only [nA, Nat.reduceBEq, Nat.reduceEqDiff, ↓reduceIte, Nat.reduceAdd, Nat.reduceSub])
   refine AWL.nil ?_
   (refine hK _ ?_; clear hK K; (try simp only [nA, Nat.reduceBEq, Nat.reduceEqDiff, ↓reduceIte, Nat.reduceAdd, Nat.reduceSub]))
   (refine AW.seq_k ?_; intro K hK)
   refine AW.region ?_
   refine awR (op_load_v 0 _ 0 0 rfl rfl rfl rfl ag67 sz67 rfl rfl rfl) ?_; (try simp only [nA, Nat.reduceBEq, Nat.reduceEqDiff, ↓reduceIte, Nat.reduceAdd, Nat.reduceSub])
   refine awP (op_move rfl rfl) ?_; (try simp only [nA, Nat.reduceBEq, Nat.reduceEqDiff, ↓reduceIte, Nat.reduceAdd, Nat.reduceSub])
   refine awP (op_ia_ro i rfl (.inl rfl) rfl Try.underlying67 rfl (get_mapD hi) (by exact sz23) (Nat.le_of_ble_eq_true rfl)) ?_; (try simp only [nA, Nat.reduceBEq, Nat.reduceEqDiff, ↓reduceIte, Nat.reduceAdd, Nat.reduceSub])
   refine awR (op_load_rop1 rfl rfl ag23) ?_; (try simp only [nA, Nat.reduceBEq, Nat.reduceEqDiff, ↓reduceIte, Nat.reduceAdd, Nat.reduceSub])
   (first | refine awP (op_len_ro rfl rfl Try.underlying23 (by first | exact .inr (.inl ⟨_, rfl, rfl⟩) | exact .inl rfl | exact .inr (.inr (.inl ⟨_, rfl, rfl⟩)) | exact .inr (.inr (.inr ⟨rfl, rfl⟩)))) ?_ | refine awP (op_len_sl rfl rfl rfl Try.underlying23) ?_ | refine awP (op_len_str rfl rfl Try.underlying23) ?_); (try simp only [nA, Nat.reduceBEq, Nat.reduceEqDiff, ↓reduceIte, Nat.reduceAdd, Nat.reduceSub])
   refine awP (op_move rfl rfl) ?_; (try simp only [nA, Nat.reduceBEq, Nat.reduceEqDiff, ↓reduceIte, Nat.reduceAdd, Nat.reduceSub])
   refine AWL.nil ?_
   (refine hK _ ?_; clear hK K; (try simp only [nA, Nat.reduceBEq, Nat.reduceEqDiff, ↓reduceIte, Nat.reduceAdd, Nat.reduceSub]))
   refine AW.block ?_
   refine AW.loopI (ι := Nat) (fun j => [(1, .v (ptv g0 0)), (2, .v (ptv g1 0)), (3, .v (ptv g2 0)), (4, .v (ptv g3 0)), (5, .v (ptv g4 0)), (26, .v (.int .i64 (W.length : Nat))), (27, .v (.int .i64 (i : Nat))), (6, .v (.int .i64 (i : Nat))), (36, .ro ((W.getD i default).map iv)), (37, .v (.int .i64 ((W.getD i default).length : Nat))), (38, .v (.int .i64 (j : Nat)))]) (fun j => ⟨[(1, .nm (slv g0 1 c0) 67 [[.ro (W.map fun r => [.ro (r.map iv)])]]), (2, .nm (slv g1 1 c1) 23 [[.v (slv g5 W.length c5)]]), (3, .nm (slv g2 1 c2) 23 [[.v (slv g6 W.length c6)]]), (4, .nm (slv g3 1 c3) 23 [[.v (slv g7 W.length c7)]]), (5, .nm (slv g4 1 c4) 3 [[.v (.int .i64 (W.length : Nat))]]), (k5, .nm (slv g5 W.length c5) 3 ((mxl (i + 1) (List.replicate W.length 0) (List.replicate W.length (-1))).map iv)), (k6, .nm (slv g6 W.length c6) 3 (((mxl i (List.replicate W.length 0) (rows0 W)).set i (most ((W.getD i default).take j))).map iv)), (k7, .nm (slv g7 W.length c7) 3 ((List.replicate W.length 0).map iv))], 12⟩) (fun j => j ≤ (W.getD i default).length) (fun j => (W.getD i default).length - j) 0 (by simp) ⟨rfl, rfl, rfl, rfl, rfl, rfl, rfl, rfl, rfl, (by simp; rfl), rfl, trivial⟩ (by rw [show (most ((W.getD i default).take 0)) = 0 from rfl, set_self (by rw [mxl_at (by simp [rows0]), if_neg (by omega), gI_rep hi])]) ?_; intro j ρ2 hJ; simp only [updL]; (try simp only [nA, Nat.reduceBEq, Nat.reduceEqDiff, ↓reduceIte, Nat.reduceAdd, Nat.reduceSub])
   (refine AW.seq_k ?_; intro K hK)
   refine AW.region ?_
   refine awP (op_lss rfl rfl rfl) ?_; (try simp only [nA, Nat.reduceBEq, Nat.reduceEqDiff, ↓reduceIte, Nat.reduceAdd, Nat.reduceSub])
   refine AWL.nil ?_
   (refine hK _ ?_; clear hK K; (try simp only [nA, Nat.reduceBEq, Nat.reduceEqDiff, ↓reduceIte, Nat.reduceAdd, Nat.reduceSub]))
   (refine AW.seq_k ?_; intro K hK)
   refine AW.cond rfl rfl rfl (fun hc => ?_) (fun hc => ?_)
   ·
    (try simp only [hcS] at hc); have hc2 := hc; have hj : j < (W.getD i default).length := (by omega); have hrl : i < ((mxl i (List.replicate W.length 0) (rows0 W)).set i (most ((W.getD i default).take j))).length := (by rw [List.length_set, mxl_len (by simp [rows0])]; simpa [rows0] using hi); have hst6 : ((mxl i (List.replicate W.length 0) (rows0 W)).set i (most ((W.getD i default).take j))).set i (if gI (W.getD i default) j > gI ((mxl i (List.replicate W.length 0) (rows0 W)).set i (most ((W.getD i default).take j))) i then gI (W.getD i default) j else gI ((mxl i (List.replicate W.length 0) (rows0 W)).set i (most ((W.getD i default).take j))) i) = (mxl i (List.replicate W.length 0) (rows0 W)).set i (most ((W.getD i default).take (j + 1))) := (by rw [ite_max, most_take hj, set_mx, mxl_at_set hi])
    refine AW.skip ?_
    (refine hK _ ?_; clear hK K; (try simp only [nA, Nat.reduceBEq, Nat.reduceEqDiff, ↓reduceIte, Nat.reduceAdd, Nat.reduceSub]))
    (refine AW.seq_k ?_; intro K hK)
    refine AW.block ?_
    (refine AW.seq_k ?_; intro K hK)
    refine AW.region ?_
    refine awP (op_ia_ro j rfl (.inl rfl) rfl Try.underlying23 rfl (gI_mapD hj) (by exact sz3) (Nat.le_of_ble_eq_true rfl)) ?_; (try simp only [nA, Nat.reduceBEq, Nat.reduceEqDiff, ↓reduceIte, Nat.reduceAdd, Nat.reduceSub])
    refine awR (op_load_rop1 rfl rfl ag3) ?_; (try simp only [nA, Nat.reduceBEq, Nat.reduceEqDiff, ↓reduceIte, Nat.reduceAdd, Nat.reduceSub])
    refine awP (op_assign rfl rfl) ?_; (try simp only [nA, Nat.reduceBEq, Nat.reduceEqDiff, ↓reduceIte, Nat.reduceAdd, Nat.reduceSub])
    refine AWL.nil ?_
    (refine hK _ ?_; clear hK K; (try simp only [nA, Nat.reduceBEq, Nat.reduceEqDiff, ↓reduceIte, Nat.reduceAdd, Nat.reduceSub]))
    refine AW.quiet_tail 9 mix (by kernel_rfl) rfl rfl ?_
    refine aqR (op_load_v 2 _ 0 0 rfl rfl rfl rfl ag23 sz23 rfl rfl rfl) ?_; (try simp only [nA, Nat.reduceBEq, Nat.reduceEqDiff, ↓reduceIte, Nat.reduceAdd, Nat.reduceSub])
    refine aqP (op_move rfl rfl) ?_; (try simp only [nA, Nat.reduceBEq, Nat.reduceEqDiff, ↓reduceIte, Nat.reduceAdd, Nat.reduceSub])
    refine aqR (op_load_v 2 _ 0 0 rfl rfl rfl rfl ag23 sz23 rfl rfl rfl) ?_; (try simp only [nA, Nat.reduceBEq, Nat.reduceEqDiff, ↓reduceIte, Nat.reduceAdd, Nat.reduceSub])
    refine aqP (op_move rfl rfl) ?_; (try simp only [nA, Nat.reduceBEq, Nat.reduceEqDiff, ↓reduceIte, Nat.reduceAdd, Nat.reduceSub])
    refine aqP (op_ia_v i 1 rfl rfl rfl Try.underlying23 rfl hi sz3 (Nat.mul_one _)) ?_; (try simp only [nA, Nat.reduceBEq, Nat.reduceEqDiff, ↓reduceIte, Nat.reduceAdd, Nat.reduceSub])
    refine aqR (op_load_v 6 _ i 0 rfl rfl rfl (gI_mapD hrl) ag3 sz3 (by simp) rfl rfl) ?_; (try simp only [nA, Nat.reduceBEq, Nat.reduceEqDiff, ↓reduceIte, Nat.reduceAdd, Nat.reduceSub])
    refine aqP (op_move rfl rfl) ?_; (try simp only [nA, Nat.reduceBEq, Nat.reduceEqDiff, ↓reduceIte, Nat.reduceAdd, Nat.reduceSub])
    refine aqP (op_max rfl rfl rfl rfl) ?_; (try simp only [nA, Nat.reduceBEq, Nat.reduceEqDiff, ↓reduceIte, Nat.reduceAdd, Nat.reduceSub])
    refine aqP (op_ia_v i 1 rfl rfl rfl Try.underlying23 rfl hi sz3 (Nat.mul_one _)) ?_; (try simp only [nA, Nat.reduceBEq, Nat.reduceEqDiff, ↓reduceIte, Nat.reduceAdd, Nat.reduceSub])
    refine AQ.nil ?_
    refine awJ (op_store_v 6 _ i 0 rfl rfl rfl rfl (gI_mapD hrl) rfl sz3 rfl sz3 (by simp) (Nat.le_of_ble_eq_true rfl) (set_iv.trans (congrArg (fun l => l.map iv) hst6)) rfl) ?_; (try simp only [nA, Nat.reduceBEq, Nat.reduceEqDiff, ↓reduceIte, Nat.reduceAdd, Nat.reduceSub])
    refine AWL.nil ?_
    (try simp only [thenE, inBlk, Nat.reduceEqDiff, ↓reduceIte])
    (refine hK _ ?_; clear hK K; (try simp only [nA, Nat.reduceBEq, Nat.reduceEqDiff, ↓reduceIte, Nat.reduceAdd, Nat.reduceSub]))
    refine AW.region ?_
    (first | refine awP (op_addi rfl rfl rfl (by omega)) ?_ | refine awP (op_add rfl rfl rfl rfl) ?_); (try simp only [nA, Nat.reduceBEq, Nat.reduceEqDiff, ↓reduceIte, Nat.reduceAdd, Nat.reduceSub])
    refine awP (op_move rfl rfl) ?_; (try simp only [nA, Nat.reduceBEq, Nat.reduceEqDiff, ↓reduceIte, Nat.reduceAdd, Nat.reduceSub])
    skip
    refine AWL.nil ?_
    refine ⟨j + 1, (by omega), (by omega), ⟨rfl, rfl, rfl, rfl, rfl, rfl, rfl, rfl, rfl, rfl, rfl, trivial⟩, (by first | rfl | trivial), (by first | rfl | trivial)⟩
   ·
    (try simp only [hcS] at hc); have hc2 := hc; skip
    refine AW.exit ?_; (try simp only [thenE, inBlk, Nat.reduceEqDiff, ↓reduceIte])
    clear hK K
    (try simp only [thenE, inBlk, Nat.reduceEqDiff, ↓reduceIte])
    (refine hK _ ?_; clear hK K; (try simp only [nA, Nat.reduceBEq, Nat.reduceEqDiff, ↓reduceIte, Nat.reduceAdd, Nat.reduceSub]))
    refine AW.region ?_
    (first | refine awP (op_addi rfl rfl rfl (by omega)) ?_ | refine awP (op_add rfl rfl rfl rfl) ?_); (try simp only [nA, Nat.reduceBEq, Nat.reduceEqDiff, ↓reduceIte, Nat.reduceAdd, Nat.reduceSub])
    refine awP (op_move rfl rfl) ?_; (try simp only [nA, Nat.reduceBEq, Nat.reduceEqDiff, ↓reduceIte, Nat.reduceAdd, Nat.reduceSub])
    skip
    refine AWL.nil ?_
    refine ⟨i + 1, (by omega), (by omega), ⟨rfl, rfl, rfl, rfl, rfl, rfl, rfl, trivial⟩, (by rw [List.take_of_length_le (by omega), mxl_set (by simp [rows0]) (by simpa using hi) (rows0_at hi).symm]), (by first | rfl | trivial)⟩
  ·
   (try simp only [hcS] at hc); have hc1 := hc; have hend : ∀ (l l2 : List Int), l.length = l2.length → l2.length = W.length → mxl i l l2 = l2 := fun l l2 q1 q2 => mxl_full q1 (by omega); rw [hend _ _ (by simp) (by simp), hend _ _ (by simp [rows0]) (by simp [rows0])]
   refine AW.exit ?_; (try simp only [thenE, inBlk, Nat.reduceEqDiff, ↓reduceIte])
   clear hK K
   (refine hK _ ?_; clear hK K; (try simp only [nA, Nat.reduceBEq, Nat.reduceEqDiff, ↓reduceIte, Nat.reduceAdd, Nat.reduceSub]))
   (refine AW.seq_k ?_; intro K hK)
   refine AW.region ?_
   refine awX (OpJ.nmPN (op_alloc rfl ze80 rfl)) ?_; rintro _ _ ⟨g8, c8, rfl, rfl⟩; (try simp only [nA, Nat.reduceBEq, Nat.reduceEqDiff, ↓reduceIte, Nat.reduceAdd, Nat.reduceSub])
   refine awX (OpJ.nmPN (op_alloc rfl ze80 rfl)) ?_; rintro _ _ ⟨g9, c9, rfl, rfl⟩; (try simp only [nA, Nat.reduceBEq, Nat.reduceEqDiff, ↓reduceIte, Nat.reduceAdd, Nat.reduceSub])
   refine AWL.nil ?_
   (refine hK _ ?_; clear hK K; (try simp only [nA, Nat.reduceBEq, Nat.reduceEqDiff, ↓reduceIte, Nat.reduceAdd, Nat.reduceSub]))
   (refine AW.seq_k ?_; intro K hK)
   refine AW.region ?_
   refine awX (OpJ.nmPN (op_alloc rfl ze81 rfl)) ?_; rintro _ _ ⟨g10, c10, rfl, rfl⟩; (try simp only [nA, Nat.reduceBEq, Nat.reduceEqDiff, ↓reduceIte, Nat.reduceAdd, Nat.reduceSub])
   refine AWL.nil ?_
   (refine hK _ ?_; clear hK K; (try simp only [nA, Nat.reduceBEq, Nat.reduceEqDiff, ↓reduceIte, Nat.reduceAdd, Nat.reduceSub]))
   (refine AW.seq_k ?_; intro K hK)
   refine AW.region ?_
   refine awP (op_makeFuncV (us := [ptv g8 0, ptv g4 0, ptv g9 0, ptv g2 0, ptv g3 0, ptv g0 0, ptv g1 0, ptv g10 0]) rfl rfl) ?_; (try simp only [nA, Nat.reduceBEq, Nat.reduceEqDiff, ↓reduceIte, Nat.reduceAdd, Nat.reduceSub])
   refine awJ (op_store_v 10 _ 0 0 rfl rfl rfl rfl rfl rfl sz81 rfl sz81 rfl (Nat.le_of_ble_eq_true rfl) rfl rfl) ?_; (try simp only [nA, Nat.reduceBEq, Nat.reduceEqDiff, ↓reduceIte, Nat.reduceAdd, Nat.reduceSub])
   refine AWL.nil ?_
   (refine hK _ ?_; clear hK K; (try simp only [nA, Nat.reduceBEq, Nat.reduceEqDiff, ↓reduceIte, Nat.reduceAdd, Nat.reduceSub]))
   (refine AW.seq_k ?_; intro K hK)
   (refine AW.seq_k ?_; intro K hK)
   refine AW.region ?_
   refine awR (op_load_v 4 _ 0 0 rfl rfl rfl rfl ag3 sz3 rfl rfl rfl) ?_; (try simp only [nA, Nat.reduceBEq, Nat.reduceEqDiff, ↓reduceIte, Nat.reduceAdd, Nat.reduceSub])
   refine awP (op_move rfl rfl) ?_; (try simp only [nA, Nat.reduceBEq, Nat.reduceEqDiff, ↓reduceIte, Nat.reduceAdd, Nat.reduceSub])
   refine AWL.nil ?_
   (refine hK _ ?_; clear hK K; (try simp only [nA, Nat.reduceBEq, Nat.reduceEqDiff, ↓reduceIte, Nat.reduceAdd, Nat.reduceSub]))
   refine AW.block ?_
   refine AW.loopI (ι := Nat × (List Int × List Int × List Int) × Value × Value × Nat) (fun z => [(1, .v (ptv g0 0)), (2, .v (ptv g1 0)), (3, .v (ptv g2 0)), (4, .v (ptv g3 0)), (5, .v (ptv g4 0)), (9, .v (ptv g8 0)), (10, .v (ptv g9 0)), (11, .v (ptv g10 0)), (54, .v (.int .i64 (W.length : Nat))), (55, .v (.int .i64 (z.1 : Nat)))]) (fun z => ⟨[(1, .nm (slv g0 1 c0) 67 [[.ro (W.map fun r => [.ro (r.map iv)])]]), (2, .nm (slv g1 1 c1) 23 [[.v (u5)]]), (3, .nm (slv g2 1 c2) 23 [[.v (u6)]]), (4, .nm (slv g3 1 c3) 23 [[.v (u7)]]), (5, .nm (slv g4 1 c4) 3 [[.v (.int .i64 (W.length : Nat))]]), (k5, .nm (u5) 3 ((z.2.1.1).map iv)), (k6, .nm (u6) 3 ((z.2.1.2.1).map iv)), (k7, .nm (u7) 3 ((z.2.1.2.2).map iv)), (12, .nm (slv g8 1 c8) 80 [[.v (z.2.2.1)]]), (13, .nm (slv g9 1 c9) 80 [[.v (z.2.2.2.1)]]), (14, .nm (slv g10 1 c10) 81 [[.v (.func (.func 50) #[] ([ptv g8 0, ptv g4 0, ptv g9 0, ptv g2 0, ptv g3 0, ptv g0 0, ptv g1 0, ptv g10 0] : List Value).toArray)]])], z.2.2.2.2⟩) (fun z => z.1 ≤ W.length ∧ P3 W.length B W z.1 z.2.1 ∧ asg W W.length (List.range' z.1 (W.length - z.1)) z.2.1 = asgF W) (fun z => W.length - z.1) (0, asg0 W, .slice none 0 0, .slice none 0 0, 15) ⟨Nat.zero_le _, start_inv hW hB, rfl⟩ ⟨rfl, rfl, rfl, rfl, rfl, rfl, rfl, rfl, rfl, rfl, trivial⟩ rfl ?_; rintro ⟨i, s, v8, v9, ep⟩ ρ3 hI3; dsimp only at hI3; simp only [updL]; (try simp only [nA, Nat.reduceBEq, Nat.reduceEqDiff, ↓reduceIte, Nat.reduceAdd, Nat.reduceSub])
   (refine AW.seq_k ?_; intro K hK)
   refine AW.region ?_
   refine awP (op_lss rfl rfl rfl) ?_; (try simp only [nA, Nat.reduceBEq, Nat.reduceEqDiff, ↓reduceIte, Nat.reduceAdd, Nat.reduceSub])
   refine AWL.nil ?_
   (refine hK _ ?_; clear hK K; (try simp only [nA, Nat.reduceBEq, Nat.reduceEqDiff, ↓reduceIte, Nat.reduceAdd, Nat.reduceSub]))
   (refine AW.seq_k ?_; intro K hK)
   refine AW.cond rfl rfl rfl (fun hc => ?_) (fun hc => ?_)
   ·
    (try simp only [hcS] at hc); have hc3 := hc; have hi : i < W.length := (by omega); obtain ⟨g5, c5, rfl⟩ := h5 (by omega); obtain ⟨g6, c6, rfl⟩ := h6 (by omega); obtain ⟨g7, c7, rfl⟩ := h7 (by omega); have hRn := asg_step hi hI3.2.2
    refine AW.skip ?_
    (refine hK _ ?_; clear hK K; (try simp only [nA, Nat.reduceBEq, Nat.reduceEqDiff, ↓reduceIte, Nat.reduceAdd, Nat.reduceSub]))
    (refine AW.seq_k ?_; intro K hK)
    refine AW.block ?_
    (refine AW.seq_k ?_; intro K hK)
    refine AW.region ?_
    refine awP (op_move rfl rfl) ?_; (try simp only [nA, Nat.reduceBEq, Nat.reduceEqDiff, ↓reduceIte, Nat.reduceAdd, Nat.reduceSub])
    refine awP (op_assign rfl rfl) ?_; (try simp only [nA, Nat.reduceBEq, Nat.reduceEqDiff, ↓reduceIte, Nat.reduceAdd, Nat.reduceSub])
    refine AWL.nil ?_
    (refine hK _ ?_; clear hK K; (try simp only [nA, Nat.reduceBEq, Nat.reduceEqDiff, ↓reduceIte, Nat.reduceAdd, Nat.reduceSub]))
    refine AW.block ?_
    refine AW.loopI (ι := (List Int × List Int × List Int) × Value × Value × Nat) (fun z => [(1, .v (ptv g0 0)), (2, .v (ptv g1 0)), (3, .v (ptv g2 0)), (4, .v (ptv g3 0)), (5, .v (ptv g4 0)), (9, .v (ptv g8 0)), (10, .v (ptv g9 0)), (11, .v (ptv g10 0)), (54, .v (.int .i64 (W.length : Nat))), (55, .v (.int .i64 (i : Nat))), (12, .v (.int .i64 (i : Nat)))]) (fun z => ⟨[(1, .nm (slv g0 1 c0) 67 [[.ro (W.map fun r => [.ro (r.map iv)])]]), (2, .nm (slv g1 1 c1) 23 [[.v (slv g5 W.length c5)]]), (3, .nm (slv g2 1 c2) 23 [[.v (slv g6 W.length c6)]]), (4, .nm (slv g3 1 c3) 23 [[.v (slv g7 W.length c7)]]), (5, .nm (slv g4 1 c4) 3 [[.v (.int .i64 (W.length : Nat))]]), (k5, .nm (slv g5 W.length c5) 3 ((z.1.1).map iv)), (k6, .nm (slv g6 W.length c6) 3 ((z.1.2.1).map iv)), (k7, .nm (slv g7 W.length c7) 3 ((z.1.2.2).map iv)), (12, .nm (slv g8 1 c8) 80 [[.v (z.2.1)]]), (13, .nm (slv g9 1 c9) 80 [[.v (z.2.2.1)]]), (14, .nm (slv g10 1 c10) 81 [[.v (.func (.func 50) #[] ([ptv g8 0, ptv g4 0, ptv g9 0, ptv g2 0, ptv g3 0, ptv g0 0, ptv g1 0, ptv g10 0] : List Value).toArray)]])], z.2.2.2⟩) (fun z => P3 W.length B W i z.1 ∧ ∃ f : Nat, z.1.2.1.sum < f ∧ rnd W W.length i f z.1 = rnd W W.length i (fuelOf s.2.1) s) (fun z => z.1.2.1.sum.toNat) (s, v8, v9, ep) ⟨hI3.2.1, fuelOf s.2.1, (by unfold fuelOf; have := hI3.2.1.sum0; dsimp only; omega), rfl⟩ ⟨rfl, rfl, rfl, rfl, rfl, rfl, rfl, rfl, rfl, rfl, rfl, trivial⟩ rfl ?_; rintro ⟨t, w8, w9, ep1⟩ ρ4 hI4; dsimp only at hI4; simp only [updL]; (try simp only [nA, Nat.reduceBEq, Nat.reduceEqDiff, ↓reduceIte, Nat.reduceAdd, Nat.reduceSub])
    refine AW.block ?_
    have hinv := hI4.1.inv (Nat.le_of_lt hi)
    have hrl0 := hI4.1.rl
    have hcl0 := hI4.1.cl
    have hcB := hI4.1.cB hW (Nat.le_of_lt hi) hB
    have hcall := fun (g c : Nat → Nat) => C50 (g := g) (c := c) (n := W.length) hn hW.wl hW.wr hrl0 hcl0 (fun q hq => by have h1 : 0 ≤ t.2.1.getD q default ∧ t.2.1.getD q default ≤ B := hI4.1.r0 q hq; omega) (fun q hq => by have h1 : 0 ≤ t.2.2.getD q default := hI4.1.c0 q hq; have h2 : t.2.2.getD q default ≤ B := hcB q hq; omega) W.length i (fresh W.length t.1) hinv (Nat.le_of_eq cnt_fresh) hi
    generalize hq : imp W t.2.1 t.2.2 W.length W.length i (fresh W.length t.1) = q at hcall
    refine AW.gh Gh.reserve ?_; refine AW.gh Gh.reserve ?_; (try simp only [nA, Nat.reduceBEq, Nat.reduceEqDiff, ↓reduceIte, Nat.reduceAdd, Nat.reduceSub])
    refine AW.join (ι := Value × Value × Nat × Nat) (fun _ => [(1, .v (ptv g0 0)), (2, .v (ptv g1 0)), (3, .v (ptv g2 0)), (4, .v (ptv g3 0)), (5, .v (ptv g4 0)), (9, .v (ptv g8 0)), (10, .v (ptv g9 0)), (11, .v (ptv g10 0)), (54, .v (.int .i64 (W.length : Nat))), (55, .v (.int .i64 (i : Nat))), (12, .v (.int .i64 (i : Nat)))]) (fun z => ⟨[(1, .nm (slv g0 1 c0) 67 [[.ro (W.map fun r => [.ro (r.map iv)])]]), (2, .nm (slv g1 1 c1) 23 [[.v (slv g5 W.length c5)]]), (3, .nm (slv g2 1 c2) 23 [[.v (slv g6 W.length c6)]]), (4, .nm (slv g3 1 c3) 23 [[.v (slv g7 W.length c7)]]), (5, .nm (slv g4 1 c4) 3 [[.v (.int .i64 (W.length : Nat))]]), (k5, .nm (slv g5 W.length c5) 3 ((t.1).map iv)), (k6, .nm (slv g6 W.length c6) 3 ((t.2.1).map iv)), (k7, .nm (slv g7 W.length c7) 3 ((t.2.2).map iv)), (12, .nm (slv g8 1 c8) 80 [[.v (z.1)]]), (13, .nm (slv g9 1 c9) 80 [[.v (z.2.1)]]), (14, .nm (slv g10 1 c10) 81 [[.v (.func (.func 50) #[] ([ptv g8 0, ptv g4 0, ptv g9 0, ptv g2 0, ptv g3 0, ptv g0 0, ptv g1 0, ptv g10 0] : List Value).toArray)]]), (z.2.2.1, .nm z.1 4 ((List.replicate W.length false).map bv)), (z.2.2.2, .nm z.2.1 4 ((List.replicate W.length false).map bv))], (ep1 + 1 + 1 + 1 + 1)⟩) (fun z => (0 < W.length → ∃ g c, z.1 = slv g W.length c) ∧ (0 < W.length → ∃ g c, z.2.1 = slv g W.length c)) ?_ ?_
    ·
     refine AW.ax (FixL [(4, 5, .nm (slv g4 1 c4) 3 [[.v (.int .i64 (W.length : Nat))]])]) mix rfl ?_
     refine axR 0 rfl (fun T' ok => op_load_v 4 _ 0 0 rfl rfl ok.1 rfl ag3 sz3 rfl rfl rfl) ⟨rfl, trivial⟩ (by kernel_rfl) (by kernel_rfl) ?_; (try simp only [nA, Nat.reduceBEq, Nat.reduceEqDiff, ↓reduceIte, Nat.reduceAdd, Nat.reduceSub])
     refine axR 2 rfl (fun T' ok => op_load_v 4 _ 0 0 rfl rfl ok.1 rfl ag3 sz3 rfl rfl rfl) ⟨rfl, trivial⟩ (by kernel_rfl) (by kernel_rfl) ?_; (try simp only [nA, Nat.reduceBEq, Nat.reduceEqDiff, ↓reduceIte, Nat.reduceAdd, Nat.reduceSub])
     refine ax2 1 3 (by kernel_rfl) ?_ ?_
     ·
      refine AXi.mk (i := 1) rfl (OpJ.nmS (OpJ.at 11 rfl (op_make rfl rfl rfl rfl rfl (Nat.le_refl _) Try.underlying80 ze4 (by omega) (by decide) (row := bv false) rfl) rfl) rfl (by simp)) ?_; rintro _ _ ⟨u11, h11, rfl, rfl⟩; refine ⟨⟨rfl, trivial⟩, ?_⟩; (try simp only [nA, Nat.reduceBEq, Nat.reduceEqDiff, ↓reduceIte, Nat.reduceAdd, Nat.reduceSub])
      refine ax2 3 4 (by kernel_rfl) ?_ ?_
      ·
       refine AXi.mk (i := 3) rfl (OpJ.nmS (OpJ.at 12 rfl (op_make rfl rfl rfl rfl rfl (Nat.le_refl _) Try.underlying80 ze4 (by omega) (by decide) (row := bv false) rfl) rfl) rfl (by simp)) ?_; rintro _ _ ⟨u12, h12, rfl, rfl⟩; refine ⟨⟨rfl, trivial⟩, ?_⟩; (try simp only [nA, Nat.reduceBEq, Nat.reduceEqDiff, ↓reduceIte, Nat.reduceAdd, Nat.reduceSub])
       refine ax1 4 (by kernel_rfl) ?_
       ·
        refine AXi.mkJ (i := 4) rfl (op_store_v 8 _ 0 0 rfl rfl rfl rfl rfl rfl sz80 rfl sz80 rfl (Nat.le_of_ble_eq_true rfl) rfl rfl) ⟨rfl, trivial⟩ ?_; (try simp only [nA, Nat.reduceBEq, Nat.reduceEqDiff, ↓reduceIte, Nat.reduceAdd, Nat.reduceSub])
        refine ax1 5 (by kernel_rfl) ?_
        ·
         refine AXi.mkJ (i := 5) rfl (op_store_v 9 _ 0 0 rfl rfl rfl rfl rfl rfl sz80 rfl sz80 rfl (Nat.le_of_ble_eq_true rfl) rfl rfl) ⟨rfl, trivial⟩ ?_; (try simp only [nA, Nat.reduceBEq, Nat.reduceEqDiff, ↓reduceIte, Nat.reduceAdd, Nat.reduceSub])
         refine axDone (by kernel_rfl) ?_; (try simp only [thenE, inBlk, Nat.reduceEqDiff, ↓reduceIte]); exact ⟨(u11, u12, (ep1 + 1 + 1), (ep1 + 1 + 1 + 1)), ⟨h11, h12⟩, ⟨rfl, rfl, rfl, rfl, rfl, rfl, rfl, rfl, rfl, rfl, rfl, trivial⟩, (by rw [List.map_replicate]; try rfl), (by first | rfl | trivial)⟩
      ·
       refine AXi.mkJ (i := 4) rfl (op_store_v 8 _ 0 0 rfl rfl rfl rfl rfl rfl sz80 rfl sz80 rfl (Nat.le_of_ble_eq_true rfl) rfl rfl) ⟨rfl, trivial⟩ ?_; (try simp only [nA, Nat.reduceBEq, Nat.reduceEqDiff, ↓reduceIte, Nat.reduceAdd, Nat.reduceSub])
       refine ax1 3 (by kernel_rfl) ?_
       ·
        refine AXi.mk (i := 3) rfl (OpJ.nmS (OpJ.at 12 rfl (op_make rfl rfl rfl rfl rfl (Nat.le_refl _) Try.underlying80 ze4 (by omega) (by decide) (row := bv false) rfl) rfl) rfl (by simp)) ?_; rintro _ _ ⟨u12, h12, rfl, rfl⟩; refine ⟨⟨rfl, trivial⟩, ?_⟩; (try simp only [nA, Nat.reduceBEq, Nat.reduceEqDiff, ↓reduceIte, Nat.reduceAdd, Nat.reduceSub])
        refine ax1 5 (by kernel_rfl) ?_
        ·
         refine AXi.mkJ (i := 5) rfl (op_store_v 9 _ 0 0 rfl rfl rfl rfl rfl rfl sz80 rfl sz80 rfl (Nat.le_of_ble_eq_true rfl) rfl rfl) ⟨rfl, trivial⟩ ?_; (try simp only [nA, Nat.reduceBEq, Nat.reduceEqDiff, ↓reduceIte, Nat.reduceAdd, Nat.reduceSub])
         refine axDone (by kernel_rfl) ?_; (try simp only [thenE, inBlk, Nat.reduceEqDiff, ↓reduceIte]); exact ⟨(u11, u12, (ep1 + 1 + 1), (ep1 + 1 + 1 + 1)), ⟨h11, h12⟩, ⟨rfl, rfl, rfl, rfl, rfl, rfl, rfl, rfl, rfl, rfl, rfl, trivial⟩, (by rw [List.map_replicate]; try rfl), (by first | rfl | trivial)⟩
     ·
      refine AXi.mk (i := 3) rfl (OpJ.nmS (OpJ.at 12 rfl (op_make rfl rfl rfl rfl rfl (Nat.le_refl _) Try.underlying80 ze4 (by omega) (by decide) (row := bv false) rfl) rfl) rfl (by simp)) ?_; rintro _ _ ⟨u12, h12, rfl, rfl⟩; refine ⟨⟨rfl, trivial⟩, ?_⟩; (try simp only [nA, Nat.reduceBEq, Nat.reduceEqDiff, ↓reduceIte, Nat.reduceAdd, Nat.reduceSub])
      refine ax1 1 (by kernel_rfl) ?_
      ·
       refine AXi.mk (i := 1) rfl (OpJ.nmS (OpJ.at 11 rfl (op_make rfl rfl rfl rfl rfl (Nat.le_refl _) Try.underlying80 ze4 (by omega) (by decide) (row := bv false) rfl) rfl) rfl (by simp)) ?_; rintro _ _ ⟨u11, h11, rfl, rfl⟩; refine ⟨⟨rfl, trivial⟩, ?_⟩; (try simp only [nA, Nat.reduceBEq, Nat.reduceEqDiff, ↓reduceIte, Nat.reduceAdd, Nat.reduceSub])
       refine ax1 4 (by kernel_rfl) ?_
       ·
        refine AXi.mkJ (i := 4) rfl (op_store_v 8 _ 0 0 rfl rfl rfl rfl rfl rfl sz80 rfl sz80 rfl (Nat.le_of_ble_eq_true rfl) rfl rfl) ⟨rfl, trivial⟩ ?_; (try simp only [nA, Nat.reduceBEq, Nat.reduceEqDiff, ↓reduceIte, Nat.reduceAdd, Nat.reduceSub])
        refine ax1 5 (by kernel_rfl) ?_
        ·
         refine AXi.mkJ (i := 5) rfl (op_store_v 9 _ 0 0 rfl rfl rfl rfl rfl rfl sz80 rfl sz80 rfl (Nat.le_of_ble_eq_true rfl) rfl rfl) ⟨rfl, trivial⟩ ?_; (try simp only [nA, Nat.reduceBEq, Nat.reduceEqDiff, ↓reduceIte, Nat.reduceAdd, Nat.reduceSub])
         refine axDone (by kernel_rfl) ?_; (try simp only [thenE, inBlk, Nat.reduceEqDiff, ↓reduceIte]); exact ⟨(u11, u12, (ep1 + 1 + 1 + 1), (ep1 + 1 + 1)), ⟨h11, h12⟩, ⟨rfl, rfl, rfl, rfl, rfl, rfl, rfl, rfl, rfl, rfl, rfl, trivial⟩, (by rw [List.map_replicate]; try rfl), (by first | rfl | trivial)⟩
    rintro ⟨u11, u12, k11, k12⟩ ρ5 ⟨h11, h12⟩; dsimp only at h11 h12; simp only [updL]; (try simp only [nA, Nat.reduceBEq, Nat.reduceEqDiff, ↓reduceIte, Nat.reduceAdd, Nat.reduceSub])
    obtain ⟨g11, c11, rfl⟩ := h11 (by omega); obtain ⟨g12, c12, rfl⟩ := h12 (by omega)
    (refine AW.seq_k ?_; intro K hK)
    (refine AW.seq_k ?_; intro K hK)
    refine AW.region ?_
    refine awR (op_load_v 10 _ 0 0 rfl rfl rfl rfl ag81 sz81 rfl rfl rfl) ?_; (try simp only [nA, Nat.reduceBEq, Nat.reduceEqDiff, ↓reduceIte, Nat.reduceAdd, Nat.reduceSub])
    refine awP (op_move rfl rfl) ?_; (try simp only [nA, Nat.reduceBEq, Nat.reduceEqDiff, ↓reduceIte, Nat.reduceAdd, Nat.reduceSub])
    refine awJ (op_callAll rfl rfl en50 (hcall (fun j => ([g0, g1, g2, g3, g4, g5, g6, g7, g8, g9, g10, g11, g12] : List Nat).getD j 0) (fun j => ([c0, c1, c2, c3, c4, c5, c6, c7, c8, c9, c10, c11, c12] : List Nat).getD j 0)) rfl rfl (T' := ⟨[(1, .nm (slv g0 1 c0) 67 [[.ro (W.map fun r => [.ro (r.map iv)])]]), (2, .nm (slv g1 1 c1) 23 [[.v (slv g5 W.length c5)]]), (3, .nm (slv g2 1 c2) 23 [[.v (slv g6 W.length c6)]]), (4, .nm (slv g3 1 c3) 23 [[.v (slv g7 W.length c7)]]), (5, .nm (slv g4 1 c4) 3 [[.v (.int .i64 (W.length : Nat))]]), (k5, .nm (slv g5 W.length c5) 3 ((q.2.to).map iv)), (k6, .nm (slv g6 W.length c6) 3 ((t.2.1).map iv)), (k7, .nm (slv g7 W.length c7) 3 ((t.2.2).map iv)), (12, .nm (slv g8 1 c8) 80 [[.v (slv g11 W.length c11)]]), (13, .nm (slv g9 1 c9) 80 [[.v (slv g12 W.length c12)]]), (14, .nm (slv g10 1 c10) 81 [[.v (.func (.func 50) #[] ([ptv g8 0, ptv g4 0, ptv g9 0, ptv g2 0, ptv g3 0, ptv g0 0, ptv g1 0, ptv g10 0] : List Value).toArray)]]), (k11, .nm (slv g11 W.length c11) 4 (q.2.sr.map bv)), (k12, .nm (slv g12 W.length c12) 4 (q.2.sc.map bv))], (ep1 + 1 + 1 + 1 + 1)⟩) rfl rfl rfl rfl impIns_nm rfl rfl) ?_; (try simp only [nA, Nat.reduceBEq, Nat.reduceEqDiff, ↓reduceIte, Nat.reduceAdd, Nat.reduceSub])
    refine AWL.nil ?_
    (refine hK _ ?_; clear hK K; (try simp only [nA, Nat.reduceBEq, Nat.reduceEqDiff, ↓reduceIte, Nat.reduceAdd, Nat.reduceSub]))
    refine AW.cond rfl rfl rfl (fun hc => ?_) (fun hc => ?_)
    ·
     (try simp only [hcS] at hc); have hc4 := hc; obtain ⟨f, hf1, hf2⟩ := hI4.2; obtain ⟨f', rfl⟩ : ∃ f', f = f' + 1 := ⟨f - 1, by have := hI4.1.sum0; omega⟩; have hok := hI4.1.ok hi hq hc4; have hyes := rnd_yes hq hf2 hc4
     refine AW.exit ?_; (try simp only [thenE, inBlk, Nat.reduceEqDiff, ↓reduceIte])
     clear hK K
     (try simp only [thenE, inBlk, Nat.reduceEqDiff, ↓reduceIte])
     (refine hK _ ?_; clear hK K; (try simp only [nA, Nat.reduceBEq, Nat.reduceEqDiff, ↓reduceIte, Nat.reduceAdd, Nat.reduceSub]))
     refine AW.region ?_
     (first | refine awP (op_addi rfl rfl rfl (by omega)) ?_ | refine awP (op_add rfl rfl rfl rfl) ?_); (try simp only [nA, Nat.reduceBEq, Nat.reduceEqDiff, ↓reduceIte, Nat.reduceAdd, Nat.reduceSub])
     refine awP (op_move rfl rfl) ?_; (try simp only [nA, Nat.reduceBEq, Nat.reduceEqDiff, ↓reduceIte, Nat.reduceAdd, Nat.reduceSub])
     refine AWL.gh (Gh.drop 11) ?_; (try simp only [nA, Nat.reduceBEq, Nat.reduceEqDiff, ↓reduceIte, Nat.reduceAdd, Nat.reduceSub])
     refine AWL.nil ?_
     refine ⟨(i + 1, (q.2.to, t.2.1, t.2.2), _, _, _), ⟨by dsimp only; omega, hok, by rw [← hyes]; exact hRn⟩, by dsimp only; omega, ⟨rfl, rfl, rfl, rfl, rfl, rfl, rfl, rfl, rfl, rfl, trivial⟩, (by first | rfl | trivial), (by first | rfl | trivial)⟩
    ·
     (try simp only [hcS] at hc); have hc4 := hc; obtain ⟨f, hf1, hf2⟩ := hI4.2; obtain ⟨f', rfl⟩ : ∃ f', f = f' + 1 := ⟨f - 1, by have := hI4.1.sum0; omega⟩; have hqf : q.1 = false := (by simpa using hc4); generalize hst : stepF W t.2.1 t.2.2 W.length q.2.sr q.2.sc = st; obtain ⟨-, hst1, hstB, hnew, hsum⟩ := hI4.1.fail hW hi hq hqf hst; have hno := rnd_no hq hf2 hqf hst; have hqi : Inv W.length q.2 := (by rw [← hq]; exact (imp_inv _ _ _ hinv hi).1); have hto : q.2.to = t.1 := (hI4.1.fail hW hi hq hqf hst).1
     refine AW.skip ?_
     (refine hK _ ?_; clear hK K; (try simp only [nA, Nat.reduceBEq, Nat.reduceEqDiff, ↓reduceIte, Nat.reduceAdd, Nat.reduceSub]))
     (refine AW.seq_k ?_; intro K hK)
     refine AW.region ?_
     refine awP (op_assign rfl rfl) ?_; (try simp only [nA, Nat.reduceBEq, Nat.reduceEqDiff, ↓reduceIte, Nat.reduceAdd, Nat.reduceSub])
     refine AWL.nil ?_
     (refine hK _ ?_; clear hK K; (try simp only [nA, Nat.reduceBEq, Nat.reduceEqDiff, ↓reduceIte, Nat.reduceAdd, Nat.reduceSub]))
     (refine AW.seq_k ?_; intro K hK)
     (refine AW.seq_k ?_; intro K hK)
     refine AW.region ?_
     refine awR (op_load_v 4 _ 0 0 rfl rfl rfl rfl ag3 sz3 rfl rfl rfl) ?_; (try simp only [nA, Nat.reduceBEq, Nat.reduceEqDiff, ↓reduceIte, Nat.reduceAdd, Nat.reduceSub])
     refine awP (op_move rfl rfl) ?_; (try simp only [nA, Nat.reduceBEq, Nat.reduceEqDiff, ↓reduceIte, Nat.reduceAdd, Nat.reduceSub])
     refine AWL.nil ?_
     (refine hK _ ?_; clear hK K; (try simp only [nA, Nat.reduceBEq, Nat.reduceEqDiff, ↓reduceIte, Nat.reduceAdd, Nat.reduceSub]))
     refine AW.block ?_
     refine AW.loopI (ι := Nat × Int) (fun z => [(1, .v (ptv g0 0)), (2, .v (ptv g1 0)), (3, .v (ptv g2 0)), (4, .v (ptv g3 0)), (5, .v (ptv g4 0)), (9, .v (ptv g8 0)), (10, .v (ptv g9 0)), (11, .v (ptv g10 0)), (54, .v (.int .i64 (W.length : Nat))), (55, .v (.int .i64 (i : Nat))), (12, .v (.int .i64 (i : Nat))), (13, .v (.int .i64 z.2)), (65, .v (.int .i64 (W.length : Nat))), (66, .v (.int .i64 (z.1 : Nat)))]) (fun _ => ⟨[(1, .nm (slv g0 1 c0) 67 [[.ro (W.map fun r => [.ro (r.map iv)])]]), (2, .nm (slv g1 1 c1) 23 [[.v (slv g5 W.length c5)]]), (3, .nm (slv g2 1 c2) 23 [[.v (slv g6 W.length c6)]]), (4, .nm (slv g3 1 c3) 23 [[.v (slv g7 W.length c7)]]), (5, .nm (slv g4 1 c4) 3 [[.v (.int .i64 (W.length : Nat))]]), (k5, .nm (slv g5 W.length c5) 3 ((q.2.to).map iv)), (k6, .nm (slv g6 W.length c6) 3 ((t.2.1).map iv)), (k7, .nm (slv g7 W.length c7) 3 ((t.2.2).map iv)), (12, .nm (slv g8 1 c8) 80 [[.v (slv g11 W.length c11)]]), (13, .nm (slv g9 1 c9) 80 [[.v (slv g12 W.length c12)]]), (14, .nm (slv g10 1 c10) 81 [[.v (.func (.func 50) #[] ([ptv g8 0, ptv g4 0, ptv g9 0, ptv g2 0, ptv g3 0, ptv g0 0, ptv g1 0, ptv g10 0] : List Value).toArray)]]), (k11, .nm (slv g11 W.length c11) 4 (q.2.sr.map bv)), (k12, .nm (slv g12 W.length c12) 4 (q.2.sc.map bv))], (ep1 + 1 + 1 + 1 + 1)⟩) (fun z => z.1 ≤ W.length ∧ stepR W t.2.1 t.2.2 q.2.sr q.2.sc W.length (List.range' z.1 (W.length - z.1)) z.2 = st) (fun z => W.length - z.1) (0, 1073741824) ⟨Nat.zero_le _, hst⟩ ⟨rfl, rfl, rfl, rfl, rfl, rfl, rfl, rfl, rfl, rfl, rfl, rfl, rfl, rfl, trivial⟩ rfl ?_; rintro ⟨r, x⟩ ρ6 hI5; dsimp only at hI5; simp only [updL]; (try simp only [nA, Nat.reduceBEq, Nat.reduceEqDiff, ↓reduceIte, Nat.reduceAdd, Nat.reduceSub])
     (refine AW.seq_k ?_; intro K hK)
     refine AW.region ?_
     refine awP (op_lss rfl rfl rfl) ?_; (try simp only [nA, Nat.reduceBEq, Nat.reduceEqDiff, ↓reduceIte, Nat.reduceAdd, Nat.reduceSub])
     refine AWL.nil ?_
     (refine hK _ ?_; clear hK K; (try simp only [nA, Nat.reduceBEq, Nat.reduceEqDiff, ↓reduceIte, Nat.reduceAdd, Nat.reduceSub]))
     (refine AW.seq_k ?_; intro K hK)
     refine AW.cond rfl rfl rfl (fun hc => ?_) (fun hc => ?_)
     ·
      (try simp only [hcS] at hc); have hc5 := hc; have hr : r < W.length := (by omega)
      refine AW.skip ?_
      (refine hK _ ?_; clear hK K; (try simp only [nA, Nat.reduceBEq, Nat.reduceEqDiff, ↓reduceIte, Nat.reduceAdd, Nat.reduceSub]))
      (refine AW.seq_k ?_; intro K hK)
      refine AW.block ?_
      (refine AW.seq_k ?_; intro K hK)
      refine AW.region ?_
      refine awP (op_move rfl rfl) ?_; (try simp only [nA, Nat.reduceBEq, Nat.reduceEqDiff, ↓reduceIte, Nat.reduceAdd, Nat.reduceSub])
      refine awP (op_assign rfl rfl) ?_; (try simp only [nA, Nat.reduceBEq, Nat.reduceEqDiff, ↓reduceIte, Nat.reduceAdd, Nat.reduceSub])
      refine AWL.nil ?_
      (refine hK _ ?_; clear hK K; (try simp only [nA, Nat.reduceBEq, Nat.reduceEqDiff, ↓reduceIte, Nat.reduceAdd, Nat.reduceSub]))
      (refine AW.seq_k ?_; intro K hK)
      refine AW.region ?_
      refine awR (op_load_v 4 _ 0 0 rfl rfl rfl rfl ag3 sz3 rfl rfl rfl) ?_; (try simp only [nA, Nat.reduceBEq, Nat.reduceEqDiff, ↓reduceIte, Nat.reduceAdd, Nat.reduceSub])
      refine awP (op_move rfl rfl) ?_; (try simp only [nA, Nat.reduceBEq, Nat.reduceEqDiff, ↓reduceIte, Nat.reduceAdd, Nat.reduceSub])
      refine AWL.nil ?_
      (refine hK _ ?_; clear hK K; (try simp only [nA, Nat.reduceBEq, Nat.reduceEqDiff, ↓reduceIte, Nat.reduceAdd, Nat.reduceSub]))
      refine AW.block ?_
      refine AW.loopI (ι := Nat × Int) (fun z => [(1, .v (ptv g0 0)), (2, .v (ptv g1 0)), (3, .v (ptv g2 0)), (4, .v (ptv g3 0)), (5, .v (ptv g4 0)), (9, .v (ptv g8 0)), (10, .v (ptv g9 0)), (11, .v (ptv g10 0)), (54, .v (.int .i64 (W.length : Nat))), (55, .v (.int .i64 (i : Nat))), (12, .v (.int .i64 (i : Nat))), (65, .v (.int .i64 (W.length : Nat))), (66, .v (.int .i64 (r : Nat))), (14, .v (.int .i64 (r : Nat))), (13, .v (.int .i64 z.2)), (69, .v (.int .i64 (W.length : Nat))), (70, .v (.int .i64 (z.1 : Nat)))]) (fun _ => ⟨[(1, .nm (slv g0 1 c0) 67 [[.ro (W.map fun r => [.ro (r.map iv)])]]), (2, .nm (slv g1 1 c1) 23 [[.v (slv g5 W.length c5)]]), (3, .nm (slv g2 1 c2) 23 [[.v (slv g6 W.length c6)]]), (4, .nm (slv g3 1 c3) 23 [[.v (slv g7 W.length c7)]]), (5, .nm (slv g4 1 c4) 3 [[.v (.int .i64 (W.length : Nat))]]), (k5, .nm (slv g5 W.length c5) 3 ((q.2.to).map iv)), (k6, .nm (slv g6 W.length c6) 3 ((t.2.1).map iv)), (k7, .nm (slv g7 W.length c7) 3 ((t.2.2).map iv)), (12, .nm (slv g8 1 c8) 80 [[.v (slv g11 W.length c11)]]), (13, .nm (slv g9 1 c9) 80 [[.v (slv g12 W.length c12)]]), (14, .nm (slv g10 1 c10) 81 [[.v (.func (.func 50) #[] ([ptv g8 0, ptv g4 0, ptv g9 0, ptv g2 0, ptv g3 0, ptv g0 0, ptv g1 0, ptv g10 0] : List Value).toArray)]]), (k11, .nm (slv g11 W.length c11) 4 (q.2.sr.map bv)), (k12, .nm (slv g12 W.length c12) 4 (q.2.sc.map bv))], (ep1 + 1 + 1 + 1 + 1)⟩) (fun z => z.1 ≤ W.length ∧ stepK W t.2.1 t.2.2 q.2.sr q.2.sc r (List.range' z.1 (W.length - z.1)) z.2 = stepK W t.2.1 t.2.2 q.2.sr q.2.sc r (List.range' 0 W.length) x) (fun z => W.length - z.1) (0, x) ⟨Nat.zero_le _, rfl⟩ ⟨rfl, rfl, rfl, rfl, rfl, rfl, rfl, rfl, rfl, rfl, rfl, rfl, rfl, rfl, rfl, rfl, rfl, trivial⟩ rfl ?_; rintro ⟨k, y⟩ ρ7 hI6; dsimp only at hI6; simp only [updL]; (try simp only [nA, Nat.reduceBEq, Nat.reduceEqDiff, ↓reduceIte, Nat.reduceAdd, Nat.reduceSub])
      (refine AW.seq_k ?_; intro K hK)
      refine AW.region ?_
      refine awP (op_lss rfl rfl rfl) ?_; (try simp only [nA, Nat.reduceBEq, Nat.reduceEqDiff, ↓reduceIte, Nat.reduceAdd, Nat.reduceSub])
      refine AWL.nil ?_
      (refine hK _ ?_; clear hK K; (try simp only [nA, Nat.reduceBEq, Nat.reduceEqDiff, ↓reduceIte, Nat.reduceAdd, Nat.reduceSub]))
      (refine AW.seq_k ?_; intro K hK)
      refine AW.cond rfl rfl rfl (fun hc => ?_) (fun hc => ?_)
      ·
       (try simp only [hcS] at hc); have hc6 := hc; have hk : k < W.length := (by omega); have hsr : r < q.2.sr.length := (by rw [hqi.sr]; exact hr); have hsc : k < q.2.sc.length := (by rw [hqi.sc]; exact hk); have hrl : r < t.2.1.length := (by rw [hrl0]; exact hr); have hcl : k < t.2.2.length := (by rw [hcl0]; exact hk); have hkw : k < (W.getD r default).length := (by rw [hW.wr r hr]; exact hk); have hb1 := hI4.1.r0 r hr; have hb2 := hI4.1.c0 k hk; have hb3 := hcB k hk; have hb4 := hW.w0 r k hr hk
       refine AW.skip ?_
       (refine hK _ ?_; clear hK K; (try simp only [nA, Nat.reduceBEq, Nat.reduceEqDiff, ↓reduceIte, Nat.reduceAdd, Nat.reduceSub]))
       (refine AW.seq_k ?_; intro K hK)
       refine AW.block ?_
       (refine AW.seq_k ?_; intro K hK)
       refine AW.region ?_
       refine awP (op_move rfl rfl) ?_; (try simp only [nA, Nat.reduceBEq, Nat.reduceEqDiff, ↓reduceIte, Nat.reduceAdd, Nat.reduceSub])
       refine awP (op_assign rfl rfl) ?_; (try simp only [nA, Nat.reduceBEq, Nat.reduceEqDiff, ↓reduceIte, Nat.reduceAdd, Nat.reduceSub])
       refine AWL.nil ?_
       (refine hK _ ?_; clear hK K; (try simp only [nA, Nat.reduceBEq, Nat.reduceEqDiff, ↓reduceIte, Nat.reduceAdd, Nat.reduceSub]))
       (refine AW.seq_k ?_; intro K hK)
       refine AW.region (AWL.quiet ?_)
       refine aqR (op_load_v 8 _ 0 0 rfl rfl rfl rfl ag80 sz80 rfl rfl rfl) ?_; (try simp only [nA, Nat.reduceBEq, Nat.reduceEqDiff, ↓reduceIte, Nat.reduceAdd, Nat.reduceSub])
       refine aqP (op_move rfl rfl) ?_; (try simp only [nA, Nat.reduceBEq, Nat.reduceEqDiff, ↓reduceIte, Nat.reduceAdd, Nat.reduceSub])
       refine aqP (op_ia_v r 1 rfl rfl rfl Try.underlying80 rfl hr sz4 (Nat.mul_one _)) ?_; (try simp only [nA, Nat.reduceBEq, Nat.reduceEqDiff, ↓reduceIte, Nat.reduceAdd, Nat.reduceSub])
       refine aqR (op_load_v 11 _ r 0 rfl rfl rfl (gB_mapD hsr) ag4 sz4 (by simp) rfl rfl) ?_; (try simp only [nA, Nat.reduceBEq, Nat.reduceEqDiff, ↓reduceIte, Nat.reduceAdd, Nat.reduceSub])
       refine aqP (op_move rfl rfl) ?_; (try simp only [nA, Nat.reduceBEq, Nat.reduceEqDiff, ↓reduceIte, Nat.reduceAdd, Nat.reduceSub])
       refine' aqAnd' [_, _, _, _, _] [78,79,80,81,82] rfl rfl rfl rfl rfl rfl rfl rfl rfl rfl rfl rfl (fun hb => ?_) ?_; rotate_left
       ·
        (try simp only [hcS] at hb)
        refine aqR (op_load_v 9 _ 0 0 rfl rfl rfl rfl ag80 sz80 rfl rfl rfl) ?_; (try simp only [nA, Nat.reduceBEq, Nat.reduceEqDiff, ↓reduceIte, Nat.reduceAdd, Nat.reduceSub])
        refine aqP (op_move rfl rfl) ?_; (try simp only [nA, Nat.reduceBEq, Nat.reduceEqDiff, ↓reduceIte, Nat.reduceAdd, Nat.reduceSub])
        refine aqP (op_ia_v k 1 rfl rfl rfl Try.underlying80 rfl hk sz4 (Nat.mul_one _)) ?_; (try simp only [nA, Nat.reduceBEq, Nat.reduceEqDiff, ↓reduceIte, Nat.reduceAdd, Nat.reduceSub])
        refine aqR (op_load_v 12 _ k 0 rfl rfl rfl (gB_mapD hsc) ag4 sz4 (by simp) rfl rfl) ?_; (try simp only [nA, Nat.reduceBEq, Nat.reduceEqDiff, ↓reduceIte, Nat.reduceAdd, Nat.reduceSub])
        refine aqP (op_not rfl rfl rfl) ?_; (try simp only [nA, Nat.reduceBEq, Nat.reduceEqDiff, ↓reduceIte, Nat.reduceAdd, Nat.reduceSub])
        (refine aqSeg rfl rfl rfl ?_; repeat (first | exact fun _ _ => rfl | refine upd_out rfl ?_ | refine era_out rfl ?_))
       (try simp only [nA, Nat.reduceBEq, Nat.reduceEqDiff, ↓reduceIte, Nat.reduceAdd, Nat.reduceSub])
       refine AQ.nil ?_
       (refine hK _ ?_; clear hK K; (try simp only [nA, Nat.reduceBEq, Nat.reduceEqDiff, ↓reduceIte, Nat.reduceAdd, Nat.reduceSub]))
       refine AW.cond rfl rfl rfl (fun hc => ?_) (fun hc => ?_)
       ·
        (try simp only [hcS] at hc); have hc7 := hc; skip
        refine AW.quiet mix (by kernel_rfl) ?_
        refine aqP (op_move rfl rfl) ?_; (try simp only [nA, Nat.reduceBEq, Nat.reduceEqDiff, ↓reduceIte, Nat.reduceAdd, Nat.reduceSub])
        refine aqR (op_load_v 2 _ 0 0 rfl rfl rfl rfl ag23 sz23 rfl rfl rfl) ?_; (try simp only [nA, Nat.reduceBEq, Nat.reduceEqDiff, ↓reduceIte, Nat.reduceAdd, Nat.reduceSub])
        refine aqP (op_move rfl rfl) ?_; (try simp only [nA, Nat.reduceBEq, Nat.reduceEqDiff, ↓reduceIte, Nat.reduceAdd, Nat.reduceSub])
        refine aqP (op_ia_v r 1 rfl rfl rfl Try.underlying23 rfl hr sz3 (Nat.mul_one _)) ?_; (try simp only [nA, Nat.reduceBEq, Nat.reduceEqDiff, ↓reduceIte, Nat.reduceAdd, Nat.reduceSub])
        refine aqR (op_load_v 6 _ r 0 rfl rfl rfl (gI_mapD hrl) ag3 sz3 (by simp) rfl rfl) ?_; (try simp only [nA, Nat.reduceBEq, Nat.reduceEqDiff, ↓reduceIte, Nat.reduceAdd, Nat.reduceSub])
        refine aqR (op_load_v 3 _ 0 0 rfl rfl rfl rfl ag23 sz23 rfl rfl rfl) ?_; (try simp only [nA, Nat.reduceBEq, Nat.reduceEqDiff, ↓reduceIte, Nat.reduceAdd, Nat.reduceSub])
        refine aqP (op_move rfl rfl) ?_; (try simp only [nA, Nat.reduceBEq, Nat.reduceEqDiff, ↓reduceIte, Nat.reduceAdd, Nat.reduceSub])
        refine aqP (op_ia_v k 1 rfl rfl rfl Try.underlying23 rfl hk sz3 (Nat.mul_one _)) ?_; (try simp only [nA, Nat.reduceBEq, Nat.reduceEqDiff, ↓reduceIte, Nat.reduceAdd, Nat.reduceSub])
        refine aqR (op_load_v 7 _ k 0 rfl rfl rfl (gI_mapD hcl) ag3 sz3 (by simp) rfl rfl) ?_; (try simp only [nA, Nat.reduceBEq, Nat.reduceEqDiff, ↓reduceIte, Nat.reduceAdd, Nat.reduceSub])
        (first | refine aqP (op_addi rfl rfl rfl (by omega)) ?_ | refine aqP (op_add rfl rfl rfl rfl) ?_); (try simp only [nA, Nat.reduceBEq, Nat.reduceEqDiff, ↓reduceIte, Nat.reduceAdd, Nat.reduceSub])
        refine aqR (op_load_v 0 _ 0 0 rfl rfl rfl rfl ag67 sz67 rfl rfl rfl) ?_; (try simp only [nA, Nat.reduceBEq, Nat.reduceEqDiff, ↓reduceIte, Nat.reduceAdd, Nat.reduceSub])
        refine aqP (op_move rfl rfl) ?_; (try simp only [nA, Nat.reduceBEq, Nat.reduceEqDiff, ↓reduceIte, Nat.reduceAdd, Nat.reduceSub])
        refine aqP (op_ia_ro r rfl (.inl rfl) rfl Try.underlying67 rfl (get_mapD hr) (by exact sz23) (Nat.le_of_ble_eq_true rfl)) ?_; (try simp only [nA, Nat.reduceBEq, Nat.reduceEqDiff, ↓reduceIte, Nat.reduceAdd, Nat.reduceSub])
        refine aqR (op_load_rop1 rfl rfl ag23) ?_; (try simp only [nA, Nat.reduceBEq, Nat.reduceEqDiff, ↓reduceIte, Nat.reduceAdd, Nat.reduceSub])
        refine aqP (op_move rfl rfl) ?_; (try simp only [nA, Nat.reduceBEq, Nat.reduceEqDiff, ↓reduceIte, Nat.reduceAdd, Nat.reduceSub])
        refine aqP (op_ia_ro k rfl (.inl rfl) rfl Try.underlying23 rfl (gI_mapD hkw) (by exact sz3) (Nat.le_of_ble_eq_true rfl)) ?_; (try simp only [nA, Nat.reduceBEq, Nat.reduceEqDiff, ↓reduceIte, Nat.reduceAdd, Nat.reduceSub])
        refine aqR (op_load_rop1 rfl rfl ag3) ?_; (try simp only [nA, Nat.reduceBEq, Nat.reduceEqDiff, ↓reduceIte, Nat.reduceAdd, Nat.reduceSub])
        (first | refine aqP (op_subi rfl rfl rfl (by omega)) ?_ | refine aqP (op_sub rfl rfl rfl rfl) ?_); (try simp only [nA, Nat.reduceBEq, Nat.reduceEqDiff, ↓reduceIte, Nat.reduceAdd, Nat.reduceSub])
        refine aqP (op_min rfl rfl rfl rfl) ?_; (try simp only [nA, Nat.reduceBEq, Nat.reduceEqDiff, ↓reduceIte, Nat.reduceAdd, Nat.reduceSub])
        refine aqP (op_assign rfl rfl) ?_; (try simp only [nA, Nat.reduceBEq, Nat.reduceEqDiff, ↓reduceIte, Nat.reduceAdd, Nat.reduceSub])
        refine AQ.nil ?_
        (try simp only [thenE, inBlk, Nat.reduceEqDiff, ↓reduceIte])
        (refine hK _ ?_; clear hK K; (try simp only [nA, Nat.reduceBEq, Nat.reduceEqDiff, ↓reduceIte, Nat.reduceAdd, Nat.reduceSub]))
        refine AW.region ?_
        (first | refine awP (op_addi rfl rfl rfl (by omega)) ?_ | refine awP (op_add rfl rfl rfl rfl) ?_); (try simp only [nA, Nat.reduceBEq, Nat.reduceEqDiff, ↓reduceIte, Nat.reduceAdd, Nat.reduceSub])
        refine awP (op_move rfl rfl) ?_; (try simp only [nA, Nat.reduceBEq, Nat.reduceEqDiff, ↓reduceIte, Nat.reduceAdd, Nat.reduceSub])
        skip
        refine AWL.nil ?_
        refine ⟨(k + 1, _), ⟨by dsimp only; omega, stepK_next hk hI6.2 (by simpa using hc7)⟩, by dsimp only; omega, ⟨rfl, rfl, rfl, rfl, rfl, rfl, rfl, rfl, rfl, rfl, rfl, rfl, rfl, rfl, rfl, rfl, rfl, trivial⟩, (by first | rfl | trivial), (by first | rfl | trivial)⟩
       ·
        (try simp only [hcS] at hc); have hc7 := hc; skip
        refine AW.skip ?_
        (try simp only [thenE, inBlk, Nat.reduceEqDiff, ↓reduceIte])
        (refine hK _ ?_; clear hK K; (try simp only [nA, Nat.reduceBEq, Nat.reduceEqDiff, ↓reduceIte, Nat.reduceAdd, Nat.reduceSub]))
        refine AW.region ?_
        (first | refine awP (op_addi rfl rfl rfl (by omega)) ?_ | refine awP (op_add rfl rfl rfl rfl) ?_); (try simp only [nA, Nat.reduceBEq, Nat.reduceEqDiff, ↓reduceIte, Nat.reduceAdd, Nat.reduceSub])
        refine awP (op_move rfl rfl) ?_; (try simp only [nA, Nat.reduceBEq, Nat.reduceEqDiff, ↓reduceIte, Nat.reduceAdd, Nat.reduceSub])
        skip
        refine AWL.nil ?_
        refine ⟨(k + 1, y), ⟨by dsimp only; omega, stepK_skip hk hI6.2 (by rintro ⟨h1, h2⟩; simp [gB] at hc7 h1 h2; simp [h1, h2] at hc7)⟩, by dsimp only; omega, ⟨rfl, rfl, rfl, rfl, rfl, rfl, rfl, rfl, rfl, rfl, rfl, rfl, rfl, rfl, rfl, rfl, rfl, trivial⟩, (by first | rfl | trivial), (by first | rfl | trivial)⟩
      ·
       (try simp only [hcS] at hc); have hc6 := hc; skip
       refine AW.exit ?_; (try simp only [thenE, inBlk, Nat.reduceEqDiff, ↓reduceIte])
       clear hK K
       (try simp only [thenE, inBlk, Nat.reduceEqDiff, ↓reduceIte])
       (refine hK _ ?_; clear hK K; (try simp only [nA, Nat.reduceBEq, Nat.reduceEqDiff, ↓reduceIte, Nat.reduceAdd, Nat.reduceSub]))
       refine AW.region ?_
       (first | refine awP (op_addi rfl rfl rfl (by omega)) ?_ | refine awP (op_add rfl rfl rfl rfl) ?_); (try simp only [nA, Nat.reduceBEq, Nat.reduceEqDiff, ↓reduceIte, Nat.reduceAdd, Nat.reduceSub])
       refine awP (op_move rfl rfl) ?_; (try simp only [nA, Nat.reduceBEq, Nat.reduceEqDiff, ↓reduceIte, Nat.reduceAdd, Nat.reduceSub])
       skip
       refine AWL.nil ?_
       refine ⟨(r + 1, y), ⟨by dsimp only; omega, by rw [stepK_end (by omega) hI6.2]; exact stepR_next hr hI5.2⟩, by dsimp only; omega, ⟨rfl, rfl, rfl, rfl, rfl, rfl, rfl, rfl, rfl, rfl, rfl, rfl, rfl, rfl, trivial⟩, (by first | rfl | trivial), (by first | rfl | trivial)⟩
     ·
      (try simp only [hcS] at hc); have hc5 := hc; obtain rfl := stepR_end (by omega) hI5.2
      refine AW.exit ?_; (try simp only [thenE, inBlk, Nat.reduceEqDiff, ↓reduceIte])
      clear hK K
      (refine hK _ ?_; clear hK K; (try simp only [nA, Nat.reduceBEq, Nat.reduceEqDiff, ↓reduceIte, Nat.reduceAdd, Nat.reduceSub]))
      (refine AW.seq_k ?_; intro K hK)
      refine AW.region ?_
      refine awR (op_load_v 4 _ 0 0 rfl rfl rfl rfl ag3 sz3 rfl rfl rfl) ?_; (try simp only [nA, Nat.reduceBEq, Nat.reduceEqDiff, ↓reduceIte, Nat.reduceAdd, Nat.reduceSub])
      refine awP (op_move rfl rfl) ?_; (try simp only [nA, Nat.reduceBEq, Nat.reduceEqDiff, ↓reduceIte, Nat.reduceAdd, Nat.reduceSub])
      refine AWL.nil ?_
      (refine hK _ ?_; clear hK K; (try simp only [nA, Nat.reduceBEq, Nat.reduceEqDiff, ↓reduceIte, Nat.reduceAdd, Nat.reduceSub]))
      refine AW.block ?_
      refine AW.loopI (ι := Nat) (fun k => [(1, .v (ptv g0 0)), (2, .v (ptv g1 0)), (3, .v (ptv g2 0)), (4, .v (ptv g3 0)), (5, .v (ptv g4 0)), (9, .v (ptv g8 0)), (10, .v (ptv g9 0)), (11, .v (ptv g10 0)), (54, .v (.int .i64 (W.length : Nat))), (55, .v (.int .i64 (i : Nat))), (12, .v (.int .i64 (i : Nat))), (13, .v (.int .i64 st)), (105, .v (.int .i64 (W.length : Nat))), (106, .v (.int .i64 (k : Nat)))]) (fun k => ⟨[(1, .nm (slv g0 1 c0) 67 [[.ro (W.map fun r => [.ro (r.map iv)])]]), (2, .nm (slv g1 1 c1) 23 [[.v (slv g5 W.length c5)]]), (3, .nm (slv g2 1 c2) 23 [[.v (slv g6 W.length c6)]]), (4, .nm (slv g3 1 c3) 23 [[.v (slv g7 W.length c7)]]), (5, .nm (slv g4 1 c4) 3 [[.v (.int .i64 (W.length : Nat))]]), (k5, .nm (slv g5 W.length c5) 3 ((q.2.to).map iv)), (k6, .nm (slv g6 W.length c6) 3 ((mxl k t.2.1 (dn q.2.sr (-st) t.2.1)).map iv)), (k7, .nm (slv g7 W.length c7) 3 ((mxl k t.2.2 (dn q.2.sc st t.2.2)).map iv)), (12, .nm (slv g8 1 c8) 80 [[.v (slv g11 W.length c11)]]), (13, .nm (slv g9 1 c9) 80 [[.v (slv g12 W.length c12)]]), (14, .nm (slv g10 1 c10) 81 [[.v (.func (.func 50) #[] ([ptv g8 0, ptv g4 0, ptv g9 0, ptv g2 0, ptv g3 0, ptv g0 0, ptv g1 0, ptv g10 0] : List Value).toArray)]]), (k11, .nm (slv g11 W.length c11) 4 (q.2.sr.map bv)), (k12, .nm (slv g12 W.length c12) 4 (q.2.sc.map bv))], (ep1 + 1 + 1 + 1 + 1)⟩) (fun k => k ≤ W.length) (fun k => W.length - k) 0 (Nat.zero_le _) ⟨rfl, rfl, rfl, rfl, rfl, rfl, rfl, rfl, rfl, rfl, rfl, rfl, rfl, rfl, trivial⟩ (by simp only [mxl_zero]) ?_; intro k ρ8 hI7; simp only [updL]; (try simp only [nA, Nat.reduceBEq, Nat.reduceEqDiff, ↓reduceIte, Nat.reduceAdd, Nat.reduceSub])
      (refine AW.seq_k ?_; intro K hK)
      refine AW.region ?_
      refine awP (op_lss rfl rfl rfl) ?_; (try simp only [nA, Nat.reduceBEq, Nat.reduceEqDiff, ↓reduceIte, Nat.reduceAdd, Nat.reduceSub])
      refine AWL.nil ?_
      (refine hK _ ?_; clear hK K; (try simp only [nA, Nat.reduceBEq, Nat.reduceEqDiff, ↓reduceIte, Nat.reduceAdd, Nat.reduceSub]))
      (refine AW.seq_k ?_; intro K hK)
      refine AW.cond rfl rfl rfl (fun hc => ?_) (fun hc => ?_)
      ·
       (try simp only [hcS] at hc); have hc8 := hc; have hk : k < W.length := (by omega); have hsr : k < q.2.sr.length := (by rw [hqi.sr]; exact hk); have hsc : k < q.2.sc.length := (by rw [hqi.sc]; exact hk); have hb1 := hI4.1.r0 k hk; have hb2 := hI4.1.c0 k hk; have hb3 := hcB k hk; have hmr : gI (mxl k t.2.1 (dn q.2.sr (-st) t.2.1)) k = gI t.2.1 k := (by rw [mxl_at dn_len.symm, if_neg (by omega)]); have hmc : gI (mxl k t.2.2 (dn q.2.sc st t.2.2)) k = gI t.2.2 k := (by rw [mxl_at dn_len.symm, if_neg (by omega)]); have hrl : k < (mxl k t.2.1 (dn q.2.sr (-st) t.2.1)).length := (by rw [mxl_len dn_len.symm, dn_len, hrl0]; exact hk); have hcl : k < (mxl k t.2.2 (dn q.2.sc st t.2.2)).length := (by rw [mxl_len dn_len.symm, dn_len, hcl0]; exact hk)
       refine AW.skip ?_
       (refine hK _ ?_; clear hK K; (try simp only [nA, Nat.reduceBEq, Nat.reduceEqDiff, ↓reduceIte, Nat.reduceAdd, Nat.reduceSub]))
       (refine AW.seq_k ?_; intro K hK)
       refine AW.block ?_
       (refine AW.seq_k ?_; intro K hK)
       refine AW.region ?_
       refine awP (op_move rfl rfl) ?_; (try simp only [nA, Nat.reduceBEq, Nat.reduceEqDiff, ↓reduceIte, Nat.reduceAdd, Nat.reduceSub])
       refine awP (op_assign rfl rfl) ?_; (try simp only [nA, Nat.reduceBEq, Nat.reduceEqDiff, ↓reduceIte, Nat.reduceAdd, Nat.reduceSub])
       refine AWL.nil ?_
       (refine hK _ ?_; clear hK K; (try simp only [nA, Nat.reduceBEq, Nat.reduceEqDiff, ↓reduceIte, Nat.reduceAdd, Nat.reduceSub]))
       (refine AW.seq_k ?_; intro K hK)
       (refine AW.seq_k ?_; intro K hK)
       refine AW.region ?_
       refine awR (op_load_v 8 _ 0 0 rfl rfl rfl rfl ag80 sz80 rfl rfl rfl) ?_; (try simp only [nA, Nat.reduceBEq, Nat.reduceEqDiff, ↓reduceIte, Nat.reduceAdd, Nat.reduceSub])
       refine awP (op_move rfl rfl) ?_; (try simp only [nA, Nat.reduceBEq, Nat.reduceEqDiff, ↓reduceIte, Nat.reduceAdd, Nat.reduceSub])
       refine awP (op_ia_v k 1 rfl rfl rfl Try.underlying80 rfl hk sz4 (Nat.mul_one _)) ?_; (try simp only [nA, Nat.reduceBEq, Nat.reduceEqDiff, ↓reduceIte, Nat.reduceAdd, Nat.reduceSub])
       refine awR (op_load_v 11 _ k 0 rfl rfl rfl (gB_mapD hsr) ag4 sz4 (by simp) rfl rfl) ?_; (try simp only [nA, Nat.reduceBEq, Nat.reduceEqDiff, ↓reduceIte, Nat.reduceAdd, Nat.reduceSub])
       refine AWL.nil ?_
       (refine hK _ ?_; clear hK K; (try simp only [nA, Nat.reduceBEq, Nat.reduceEqDiff, ↓reduceIte, Nat.reduceAdd, Nat.reduceSub]))
       refine AW.cond rfl rfl rfl (fun hc => ?_) (fun hc => ?_)
       ·
        (try simp only [hcS] at hc); have hc9 := hc; have hst10 : (mxl k t.2.1 (dn q.2.sr (-st) t.2.1)).set k (gI (mxl k t.2.1 (dn q.2.sr (-st) t.2.1)) k - st) = mxl (k + 1) t.2.1 (dn q.2.sr (-st) t.2.1) := mxl_set dn_len.symm (by rw [hrl0]; exact hk) (by rw [hmr, dn_at (by rw [hrl0]; exact hk), if_pos hc9]; rfl)
        refine AW.region ?_
        refine awR (op_load_v 2 _ 0 0 rfl rfl rfl rfl ag23 sz23 rfl rfl rfl) ?_; (try simp only [nA, Nat.reduceBEq, Nat.reduceEqDiff, ↓reduceIte, Nat.reduceAdd, Nat.reduceSub])
        refine awP (op_move rfl rfl) ?_; (try simp only [nA, Nat.reduceBEq, Nat.reduceEqDiff, ↓reduceIte, Nat.reduceAdd, Nat.reduceSub])
        refine awP (op_ia_v k 1 rfl rfl rfl Try.underlying23 rfl hk sz3 (Nat.mul_one _)) ?_; (try simp only [nA, Nat.reduceBEq, Nat.reduceEqDiff, ↓reduceIte, Nat.reduceAdd, Nat.reduceSub])
        refine awR (op_load_v 6 _ k 0 rfl rfl rfl (gI_mapD hrl) ag3 sz3 (by simp) rfl rfl) ?_; (try simp only [nA, Nat.reduceBEq, Nat.reduceEqDiff, ↓reduceIte, Nat.reduceAdd, Nat.reduceSub])
        refine awP (op_move rfl rfl) ?_; (try simp only [nA, Nat.reduceBEq, Nat.reduceEqDiff, ↓reduceIte, Nat.reduceAdd, Nat.reduceSub])
        (first | refine awP (op_subi rfl rfl rfl (by omega)) ?_ | refine awP (op_sub rfl rfl rfl rfl) ?_); (try simp only [nA, Nat.reduceBEq, Nat.reduceEqDiff, ↓reduceIte, Nat.reduceAdd, Nat.reduceSub])
        refine awP (op_ia_v k 1 rfl rfl rfl Try.underlying23 rfl hk sz3 (Nat.mul_one _)) ?_; (try simp only [nA, Nat.reduceBEq, Nat.reduceEqDiff, ↓reduceIte, Nat.reduceAdd, Nat.reduceSub])
        refine awJ (op_store_v 6 _ k 0 rfl rfl rfl rfl (gI_mapD hrl) rfl sz3 rfl sz3 (by simp) (Nat.le_of_ble_eq_true rfl) (set_iv.trans (congrArg (fun l => l.map iv) hst10)) rfl) ?_; (try simp only [nA, Nat.reduceBEq, Nat.reduceEqDiff, ↓reduceIte, Nat.reduceAdd, Nat.reduceSub])
        refine AWL.nil ?_
        (refine hK _ ?_; clear hK K; (try simp only [nA, Nat.reduceBEq, Nat.reduceEqDiff, ↓reduceIte, Nat.reduceAdd, Nat.reduceSub]))
        (refine AW.seq_k ?_; intro K hK)
        refine AW.region ?_
        refine awR (op_load_v 9 _ 0 0 rfl rfl rfl rfl ag80 sz80 rfl rfl rfl) ?_; (try simp only [nA, Nat.reduceBEq, Nat.reduceEqDiff, ↓reduceIte, Nat.reduceAdd, Nat.reduceSub])
        refine awP (op_move rfl rfl) ?_; (try simp only [nA, Nat.reduceBEq, Nat.reduceEqDiff, ↓reduceIte, Nat.reduceAdd, Nat.reduceSub])
        refine awP (op_ia_v k 1 rfl rfl rfl Try.underlying80 rfl hk sz4 (Nat.mul_one _)) ?_; (try simp only [nA, Nat.reduceBEq, Nat.reduceEqDiff, ↓reduceIte, Nat.reduceAdd, Nat.reduceSub])
        refine awR (op_load_v 12 _ k 0 rfl rfl rfl (gB_mapD hsc) ag4 sz4 (by simp) rfl rfl) ?_; (try simp only [nA, Nat.reduceBEq, Nat.reduceEqDiff, ↓reduceIte, Nat.reduceAdd, Nat.reduceSub])
        refine AWL.nil ?_
        (refine hK _ ?_; clear hK K; (try simp only [nA, Nat.reduceBEq, Nat.reduceEqDiff, ↓reduceIte, Nat.reduceAdd, Nat.reduceSub]))
        refine AW.cond rfl rfl rfl (fun hc => ?_) (fun hc => ?_)
        ·
         (try simp only [hcS] at hc); have hc10 := hc; have hst11 : (mxl k t.2.2 (dn q.2.sc st t.2.2)).set k (gI (mxl k t.2.2 (dn q.2.sc st t.2.2)) k + st) = mxl (k + 1) t.2.2 (dn q.2.sc st t.2.2) := mxl_set dn_len.symm (by rw [hcl0]; exact hk) (by rw [hmc, dn_at (by rw [hcl0]; exact hk), if_pos hc10])
         refine AW.region ?_
         refine awR (op_load_v 3 _ 0 0 rfl rfl rfl rfl ag23 sz23 rfl rfl rfl) ?_; (try simp only [nA, Nat.reduceBEq, Nat.reduceEqDiff, ↓reduceIte, Nat.reduceAdd, Nat.reduceSub])
         refine awP (op_move rfl rfl) ?_; (try simp only [nA, Nat.reduceBEq, Nat.reduceEqDiff, ↓reduceIte, Nat.reduceAdd, Nat.reduceSub])
         refine awP (op_ia_v k 1 rfl rfl rfl Try.underlying23 rfl hk sz3 (Nat.mul_one _)) ?_; (try simp only [nA, Nat.reduceBEq, Nat.reduceEqDiff, ↓reduceIte, Nat.reduceAdd, Nat.reduceSub])
         refine awR (op_load_v 7 _ k 0 rfl rfl rfl (gI_mapD hcl) ag3 sz3 (by simp) rfl rfl) ?_; (try simp only [nA, Nat.reduceBEq, Nat.reduceEqDiff, ↓reduceIte, Nat.reduceAdd, Nat.reduceSub])
         refine awP (op_move rfl rfl) ?_; (try simp only [nA, Nat.reduceBEq, Nat.reduceEqDiff, ↓reduceIte, Nat.reduceAdd, Nat.reduceSub])
         (first | refine awP (op_addi rfl rfl rfl (by omega)) ?_ | refine awP (op_add rfl rfl rfl rfl) ?_); (try simp only [nA, Nat.reduceBEq, Nat.reduceEqDiff, ↓reduceIte, Nat.reduceAdd, Nat.reduceSub])
         refine awP (op_ia_v k 1 rfl rfl rfl Try.underlying23 rfl hk sz3 (Nat.mul_one _)) ?_; (try simp only [nA, Nat.reduceBEq, Nat.reduceEqDiff, ↓reduceIte, Nat.reduceAdd, Nat.reduceSub])
         refine awJ (op_store_v 7 _ k 0 rfl rfl rfl rfl (gI_mapD hcl) rfl sz3 rfl sz3 (by simp) (Nat.le_of_ble_eq_true rfl) (set_iv.trans (congrArg (fun l => l.map iv) hst11)) rfl) ?_; (try simp only [nA, Nat.reduceBEq, Nat.reduceEqDiff, ↓reduceIte, Nat.reduceAdd, Nat.reduceSub])
         refine AWL.nil ?_
         (try simp only [thenE, inBlk, Nat.reduceEqDiff, ↓reduceIte])
         (refine hK _ ?_; clear hK K; (try simp only [nA, Nat.reduceBEq, Nat.reduceEqDiff, ↓reduceIte, Nat.reduceAdd, Nat.reduceSub]))
         refine AW.region ?_
         (first | refine awP (op_addi rfl rfl rfl (by omega)) ?_ | refine awP (op_add rfl rfl rfl rfl) ?_); (try simp only [nA, Nat.reduceBEq, Nat.reduceEqDiff, ↓reduceIte, Nat.reduceAdd, Nat.reduceSub])
         refine awP (op_move rfl rfl) ?_; (try simp only [nA, Nat.reduceBEq, Nat.reduceEqDiff, ↓reduceIte, Nat.reduceAdd, Nat.reduceSub])
         skip
         refine AWL.nil ?_
         refine ⟨k + 1, (by omega), (by omega), ⟨rfl, rfl, rfl, rfl, rfl, rfl, rfl, rfl, rfl, rfl, rfl, rfl, rfl, rfl, trivial⟩, (cong2 (fun (la lb : List Int) => (⟨[(1, .nm (slv g0 1 c0) 67 [[.ro (W.map fun r => [.ro (r.map iv)])]]), (2, .nm (slv g1 1 c1) 23 [[.v (slv g5 W.length c5)]]), (3, .nm (slv g2 1 c2) 23 [[.v (slv g6 W.length c6)]]), (4, .nm (slv g3 1 c3) 23 [[.v (slv g7 W.length c7)]]), (5, .nm (slv g4 1 c4) 3 [[.v (.int .i64 (W.length : Nat))]]), (k5, .nm (slv g5 W.length c5) 3 ((q.2.to).map iv)), (k6, .nm (slv g6 W.length c6) 3 ((la).map iv)), (k7, .nm (slv g7 W.length c7) 3 ((lb).map iv)), (12, .nm (slv g8 1 c8) 80 [[.v (slv g11 W.length c11)]]), (13, .nm (slv g9 1 c9) 80 [[.v (slv g12 W.length c12)]]), (14, .nm (slv g10 1 c10) 81 [[.v (.func (.func 50) #[] ([ptv g8 0, ptv g4 0, ptv g9 0, ptv g2 0, ptv g3 0, ptv g0 0, ptv g1 0, ptv g10 0] : List Value).toArray)]]), (k11, .nm (slv g11 W.length c11) 4 (q.2.sr.map bv)), (k12, .nm (slv g12 W.length c12) 4 (q.2.sc.map bv))], (ep1 + 1 + 1 + 1 + 1)⟩ : Sl)) rfl rfl), (by first | rfl | trivial)⟩
        ·
         (try simp only [hcS] at hc); have hc10 := hc; have hsm11 : mxl k t.2.2 (dn q.2.sc st t.2.2) = mxl (k + 1) t.2.2 (dn q.2.sc st t.2.2) := mxl_same dn_len.symm (by rw [dn_at (by rw [hcl0]; exact hk), if_neg (by simpa using hc10)])
         refine AW.skip ?_
         (try simp only [thenE, inBlk, Nat.reduceEqDiff, ↓reduceIte])
         (refine hK _ ?_; clear hK K; (try simp only [nA, Nat.reduceBEq, Nat.reduceEqDiff, ↓reduceIte, Nat.reduceAdd, Nat.reduceSub]))
         refine AW.region ?_
         (first | refine awP (op_addi rfl rfl rfl (by omega)) ?_ | refine awP (op_add rfl rfl rfl rfl) ?_); (try simp only [nA, Nat.reduceBEq, Nat.reduceEqDiff, ↓reduceIte, Nat.reduceAdd, Nat.reduceSub])
         refine awP (op_move rfl rfl) ?_; (try simp only [nA, Nat.reduceBEq, Nat.reduceEqDiff, ↓reduceIte, Nat.reduceAdd, Nat.reduceSub])
         refine AWL.nil ?_
         refine ⟨k + 1, (by omega), (by omega), ⟨rfl, rfl, rfl, rfl, rfl, rfl, rfl, rfl, rfl, rfl, rfl, rfl, rfl, rfl, trivial⟩, (cong2 (fun (la lb : List Int) => (⟨[(1, .nm (slv g0 1 c0) 67 [[.ro (W.map fun r => [.ro (r.map iv)])]]), (2, .nm (slv g1 1 c1) 23 [[.v (slv g5 W.length c5)]]), (3, .nm (slv g2 1 c2) 23 [[.v (slv g6 W.length c6)]]), (4, .nm (slv g3 1 c3) 23 [[.v (slv g7 W.length c7)]]), (5, .nm (slv g4 1 c4) 3 [[.v (.int .i64 (W.length : Nat))]]), (k5, .nm (slv g5 W.length c5) 3 ((q.2.to).map iv)), (k6, .nm (slv g6 W.length c6) 3 ((la).map iv)), (k7, .nm (slv g7 W.length c7) 3 ((lb).map iv)), (12, .nm (slv g8 1 c8) 80 [[.v (slv g11 W.length c11)]]), (13, .nm (slv g9 1 c9) 80 [[.v (slv g12 W.length c12)]]), (14, .nm (slv g10 1 c10) 81 [[.v (.func (.func 50) #[] ([ptv g8 0, ptv g4 0, ptv g9 0, ptv g2 0, ptv g3 0, ptv g0 0, ptv g1 0, ptv g10 0] : List Value).toArray)]]), (k11, .nm (slv g11 W.length c11) 4 (q.2.sr.map bv)), (k12, .nm (slv g12 W.length c12) 4 (q.2.sc.map bv))], (ep1 + 1 + 1 + 1 + 1)⟩ : Sl)) rfl hsm11), (by first | rfl | trivial)⟩
       ·
        (try simp only [hcS] at hc); have hc9 := hc; have hsm10 : mxl k t.2.1 (dn q.2.sr (-st) t.2.1) = mxl (k + 1) t.2.1 (dn q.2.sr (-st) t.2.1) := mxl_same dn_len.symm (by rw [dn_at (by rw [hrl0]; exact hk), if_neg (by simpa using hc9)])
        refine AW.skip ?_
        (refine hK _ ?_; clear hK K; (try simp only [nA, Nat.reduceBEq, Nat.reduceEqDiff, ↓reduceIte, Nat.reduceAdd, Nat.reduceSub]))
        (refine AW.seq_k ?_; intro K hK)
        refine AW.region ?_
        refine awR (op_load_v 9 _ 0 0 rfl rfl rfl rfl ag80 sz80 rfl rfl rfl) ?_; (try simp only [nA, Nat.reduceBEq, Nat.reduceEqDiff, ↓reduceIte, Nat.reduceAdd, Nat.reduceSub])
        refine awP (op_move rfl rfl) ?_; (try simp only [nA, Nat.reduceBEq, Nat.reduceEqDiff, ↓reduceIte, Nat.reduceAdd, Nat.reduceSub])
        refine awP (op_ia_v k 1 rfl rfl rfl Try.underlying80 rfl hk sz4 (Nat.mul_one _)) ?_; (try simp only [nA, Nat.reduceBEq, Nat.reduceEqDiff, ↓reduceIte, Nat.reduceAdd, Nat.reduceSub])
        refine awR (op_load_v 12 _ k 0 rfl rfl rfl (gB_mapD hsc) ag4 sz4 (by simp) rfl rfl) ?_; (try simp only [nA, Nat.reduceBEq, Nat.reduceEqDiff, ↓reduceIte, Nat.reduceAdd, Nat.reduceSub])
        refine AWL.nil ?_
        (refine hK _ ?_; clear hK K; (try simp only [nA, Nat.reduceBEq, Nat.reduceEqDiff, ↓reduceIte, Nat.reduceAdd, Nat.reduceSub]))
        refine AW.cond rfl rfl rfl (fun hc => ?_) (fun hc => ?_)
        ·
         (try simp only [hcS] at hc); have hc11 := hc; have hst11 : (mxl k t.2.2 (dn q.2.sc st t.2.2)).set k (gI (mxl k t.2.2 (dn q.2.sc st t.2.2)) k + st) = mxl (k + 1) t.2.2 (dn q.2.sc st t.2.2) := mxl_set dn_len.symm (by rw [hcl0]; exact hk) (by rw [hmc, dn_at (by rw [hcl0]; exact hk), if_pos hc11])
         refine AW.region ?_
         refine awR (op_load_v 3 _ 0 0 rfl rfl rfl rfl ag23 sz23 rfl rfl rfl) ?_; (try simp only [nA, Nat.reduceBEq, Nat.reduceEqDiff, ↓reduceIte, Nat.reduceAdd, Nat.reduceSub])
         refine awP (op_move rfl rfl) ?_; (try simp only [nA, Nat.reduceBEq, Nat.reduceEqDiff, ↓reduceIte, Nat.reduceAdd, Nat.reduceSub])
         refine awP (op_ia_v k 1 rfl rfl rfl Try.underlying23 rfl hk sz3 (Nat.mul_one _)) ?_; (try simp only [nA, Nat.reduceBEq, Nat.reduceEqDiff, ↓reduceIte, Nat.reduceAdd, Nat.reduceSub])
         refine awR (op_load_v 7 _ k 0 rfl rfl rfl (gI_mapD hcl) ag3 sz3 (by simp) rfl rfl) ?_; (try simp only [nA, Nat.reduceBEq, Nat.reduceEqDiff, ↓reduceIte, Nat.reduceAdd, Nat.reduceSub])
         refine awP (op_move rfl rfl) ?_; (try simp only [nA, Nat.reduceBEq, Nat.reduceEqDiff, ↓reduceIte, Nat.reduceAdd, Nat.reduceSub])
         (first | refine awP (op_addi rfl rfl rfl (by omega)) ?_ | refine awP (op_add rfl rfl rfl rfl) ?_); (try simp only [nA, Nat.reduceBEq, Nat.reduceEqDiff, ↓reduceIte, Nat.reduceAdd, Nat.reduceSub])
         refine awP (op_ia_v k 1 rfl rfl rfl Try.underlying23 rfl hk sz3 (Nat.mul_one _)) ?_; (try simp only [nA, Nat.reduceBEq, Nat.reduceEqDiff, ↓reduceIte, Nat.reduceAdd, Nat.reduceSub])
         refine awJ (op_store_v 7 _ k 0 rfl rfl rfl rfl (gI_mapD hcl) rfl sz3 rfl sz3 (by simp) (Nat.le_of_ble_eq_true rfl) (set_iv.trans (congrArg (fun l => l.map iv) hst11)) rfl) ?_; (try simp only [nA, Nat.reduceBEq, Nat.reduceEqDiff, ↓reduceIte, Nat.reduceAdd, Nat.reduceSub])
         refine AWL.nil ?_
         (try simp only [thenE, inBlk, Nat.reduceEqDiff, ↓reduceIte])
         (refine hK _ ?_; clear hK K; (try simp only [nA, Nat.reduceBEq, Nat.reduceEqDiff, ↓reduceIte, Nat.reduceAdd, Nat.reduceSub]))
         refine AW.region ?_
         (first | refine awP (op_addi rfl rfl rfl (by omega)) ?_ | refine awP (op_add rfl rfl rfl rfl) ?_); (try simp only [nA, Nat.reduceBEq, Nat.reduceEqDiff, ↓reduceIte, Nat.reduceAdd, Nat.reduceSub])
         refine awP (op_move rfl rfl) ?_; (try simp only [nA, Nat.reduceBEq, Nat.reduceEqDiff, ↓reduceIte, Nat.reduceAdd, Nat.reduceSub])
         refine AWL.nil ?_
         refine ⟨k + 1, (by omega), (by omega), ⟨rfl, rfl, rfl, rfl, rfl, rfl, rfl, rfl, rfl, rfl, rfl, rfl, rfl, rfl, trivial⟩, (cong2 (fun (la lb : List Int) => (⟨[(1, .nm (slv g0 1 c0) 67 [[.ro (W.map fun r => [.ro (r.map iv)])]]), (2, .nm (slv g1 1 c1) 23 [[.v (slv g5 W.length c5)]]), (3, .nm (slv g2 1 c2) 23 [[.v (slv g6 W.length c6)]]), (4, .nm (slv g3 1 c3) 23 [[.v (slv g7 W.length c7)]]), (5, .nm (slv g4 1 c4) 3 [[.v (.int .i64 (W.length : Nat))]]), (k5, .nm (slv g5 W.length c5) 3 ((q.2.to).map iv)), (k6, .nm (slv g6 W.length c6) 3 ((la).map iv)), (k7, .nm (slv g7 W.length c7) 3 ((lb).map iv)), (12, .nm (slv g8 1 c8) 80 [[.v (slv g11 W.length c11)]]), (13, .nm (slv g9 1 c9) 80 [[.v (slv g12 W.length c12)]]), (14, .nm (slv g10 1 c10) 81 [[.v (.func (.func 50) #[] ([ptv g8 0, ptv g4 0, ptv g9 0, ptv g2 0, ptv g3 0, ptv g0 0, ptv g1 0, ptv g10 0] : List Value).toArray)]]), (k11, .nm (slv g11 W.length c11) 4 (q.2.sr.map bv)), (k12, .nm (slv g12 W.length c12) 4 (q.2.sc.map bv))], (ep1 + 1 + 1 + 1 + 1)⟩ : Sl)) hsm10 rfl), (by first | rfl | trivial)⟩
        ·
         (try simp only [hcS] at hc); have hc11 := hc; have hsm11 : mxl k t.2.2 (dn q.2.sc st t.2.2) = mxl (k + 1) t.2.2 (dn q.2.sc st t.2.2) := mxl_same dn_len.symm (by rw [dn_at (by rw [hcl0]; exact hk), if_neg (by simpa using hc11)])
         refine AW.skip ?_
         (try simp only [thenE, inBlk, Nat.reduceEqDiff, ↓reduceIte])
         (refine hK _ ?_; clear hK K; (try simp only [nA, Nat.reduceBEq, Nat.reduceEqDiff, ↓reduceIte, Nat.reduceAdd, Nat.reduceSub]))
         refine AW.region ?_
         (first | refine awP (op_addi rfl rfl rfl (by omega)) ?_ | refine awP (op_add rfl rfl rfl rfl) ?_); (try simp only [nA, Nat.reduceBEq, Nat.reduceEqDiff, ↓reduceIte, Nat.reduceAdd, Nat.reduceSub])
         refine awP (op_move rfl rfl) ?_; (try simp only [nA, Nat.reduceBEq, Nat.reduceEqDiff, ↓reduceIte, Nat.reduceAdd, Nat.reduceSub])
         refine AWL.nil ?_
         refine ⟨k + 1, (by omega), (by omega), ⟨rfl, rfl, rfl, rfl, rfl, rfl, rfl, rfl, rfl, rfl, rfl, rfl, rfl, rfl, trivial⟩, (cong2 (fun (la lb : List Int) => (⟨[(1, .nm (slv g0 1 c0) 67 [[.ro (W.map fun r => [.ro (r.map iv)])]]), (2, .nm (slv g1 1 c1) 23 [[.v (slv g5 W.length c5)]]), (3, .nm (slv g2 1 c2) 23 [[.v (slv g6 W.length c6)]]), (4, .nm (slv g3 1 c3) 23 [[.v (slv g7 W.length c7)]]), (5, .nm (slv g4 1 c4) 3 [[.v (.int .i64 (W.length : Nat))]]), (k5, .nm (slv g5 W.length c5) 3 ((q.2.to).map iv)), (k6, .nm (slv g6 W.length c6) 3 ((la).map iv)), (k7, .nm (slv g7 W.length c7) 3 ((lb).map iv)), (12, .nm (slv g8 1 c8) 80 [[.v (slv g11 W.length c11)]]), (13, .nm (slv g9 1 c9) 80 [[.v (slv g12 W.length c12)]]), (14, .nm (slv g10 1 c10) 81 [[.v (.func (.func 50) #[] ([ptv g8 0, ptv g4 0, ptv g9 0, ptv g2 0, ptv g3 0, ptv g0 0, ptv g1 0, ptv g10 0] : List Value).toArray)]]), (k11, .nm (slv g11 W.length c11) 4 (q.2.sr.map bv)), (k12, .nm (slv g12 W.length c12) 4 (q.2.sc.map bv))], (ep1 + 1 + 1 + 1 + 1)⟩ : Sl)) hsm10 hsm11), (by first | rfl | trivial)⟩
      ·
       (try simp only [hcS] at hc); have hc8 := hc; have hfr : mxl k t.2.1 (dn q.2.sr (-st) t.2.1) = dn q.2.sr (-st) t.2.1 := mxl_full dn_len.symm (by rw [dn_len, hrl0]; omega); have hfc : mxl k t.2.2 (dn q.2.sc st t.2.2) = dn q.2.sc st t.2.2 := mxl_full dn_len.symm (by rw [dn_len, hcl0]; omega); refine AW.gh (Gh.drop 11) ?_; (try simp only [nA, Nat.reduceBEq, Nat.reduceEqDiff, ↓reduceIte, Nat.reduceAdd, Nat.reduceSub])
       refine AW.exit ?_; (try simp only [thenE, inBlk, Nat.reduceEqDiff, ↓reduceIte])
       clear hK K
       (try simp only [thenE, inBlk, Nat.reduceEqDiff, ↓reduceIte])
       refine ⟨((q.2.to, dn q.2.sr (-st) t.2.1, dn q.2.sc st t.2.2), _, _, _), ⟨by rw [hto]; exact hnew, f', by dsimp only; omega, hno⟩, by have := hnew.sum0; dsimp only; omega, ⟨rfl, rfl, rfl, rfl, rfl, rfl, rfl, rfl, rfl, rfl, rfl, trivial⟩, (cong2 (fun (la lb : List Int) => (⟨[(1, .nm (slv g0 1 c0) 67 [[.ro (W.map fun r => [.ro (r.map iv)])]]), (2, .nm (slv g1 1 c1) 23 [[.v (slv g5 W.length c5)]]), (3, .nm (slv g2 1 c2) 23 [[.v (slv g6 W.length c6)]]), (4, .nm (slv g3 1 c3) 23 [[.v (slv g7 W.length c7)]]), (5, .nm (slv g4 1 c4) 3 [[.v (.int .i64 (W.length : Nat))]]), (k5, .nm (slv g5 W.length c5) 3 ((q.2.to).map iv)), (k6, .nm (slv g6 W.length c6) 3 ((la).map iv)), (k7, .nm (slv g7 W.length c7) 3 ((lb).map iv)), (12, .nm (slv g8 1 c8) 80 [[.v (slv g11 W.length c11)]]), (13, .nm (slv g9 1 c9) 80 [[.v (slv g12 W.length c12)]]), (14, .nm (slv g10 1 c10) 81 [[.v (.func (.func 50) #[] ([ptv g8 0, ptv g4 0, ptv g9 0, ptv g2 0, ptv g3 0, ptv g0 0, ptv g1 0, ptv g10 0] : List Value).toArray)]])], (ep1 + 1 + 1 + 1 + 1)⟩ : Sl)) hfr hfc), (by first | rfl | trivial)⟩
   ·
    (try simp only [hcS] at hc); have hc3 := hc; have hend := asg_end (by omega) hI3.2.2; subst hend
    refine AW.exit ?_; (try simp only [thenE, inBlk, Nat.reduceEqDiff, ↓reduceIte])
    clear hK K
    (refine hK _ ?_; clear hK K; (try simp only [nA, Nat.reduceBEq, Nat.reduceEqDiff, ↓reduceIte, Nat.reduceAdd, Nat.reduceSub]))
    (refine AW.seq_k ?_; intro K hK)
    refine AW.ax (FixL [(1, 2, .nm (slv g1 1 c1) 23 [[.v u5]]), (2, 3, .nm (slv g2 1 c2) 23 [[.v u6]]), (3, 4, .nm (slv g3 1 c3) 23 [[.v u7]])]) mix rfl ?_
    refine axR 0 rfl (fun T' ok => op_load_v 1 _ 0 0 rfl rfl ok.1 rfl ag23 sz23 rfl rfl rfl) ⟨rfl, rfl, rfl, trivial⟩ (by kernel_rfl) (by kernel_rfl) ?_; (try simp only [nA, Nat.reduceBEq, Nat.reduceEqDiff, ↓reduceIte, Nat.reduceAdd, Nat.reduceSub])
    refine axR 1 rfl (fun T' ok => op_load_v 2 _ 0 0 rfl rfl ok.2.1 rfl ag23 sz23 rfl rfl rfl) ⟨rfl, rfl, rfl, trivial⟩ (by kernel_rfl) (by kernel_rfl) ?_; (try simp only [nA, Nat.reduceBEq, Nat.reduceEqDiff, ↓reduceIte, Nat.reduceAdd, Nat.reduceSub])
    refine axR 2 rfl (fun T' ok => op_load_v 3 _ 0 0 rfl rfl ok.2.2.1 rfl ag23 sz23 rfl rfl rfl) ⟨rfl, rfl, rfl, trivial⟩ (by kernel_rfl) (by kernel_rfl) ?_; (try simp only [nA, Nat.reduceBEq, Nat.reduceEqDiff, ↓reduceIte, Nat.reduceAdd, Nat.reduceSub])
    refine ax1 3 (by kernel_rfl) (AXi.mkJ (i := 3) rfl (op_store_v 1 _ 0 0 rfl rfl rfl rfl rfl rfl sz23 rfl sz23 rfl (Nat.le_of_ble_eq_true rfl) rfl rfl) ⟨rfl, rfl, rfl, trivial⟩ ?_); (try simp only [nA, Nat.reduceBEq, Nat.reduceEqDiff, ↓reduceIte, Nat.reduceAdd, Nat.reduceSub])
    refine ax1 4 (by kernel_rfl) (AXi.mkJ (i := 4) rfl (op_store_v 2 _ 0 0 rfl rfl rfl rfl rfl rfl sz23 rfl sz23 rfl (Nat.le_of_ble_eq_true rfl) rfl rfl) ⟨rfl, rfl, rfl, trivial⟩ ?_); (try simp only [nA, Nat.reduceBEq, Nat.reduceEqDiff, ↓reduceIte, Nat.reduceAdd, Nat.reduceSub])
    refine ax1 5 (by kernel_rfl) (AXi.mkJ (i := 5) rfl (op_store_v 3 _ 0 0 rfl rfl rfl rfl rfl rfl sz23 rfl sz23 rfl (Nat.le_of_ble_eq_true rfl) rfl rfl) ⟨rfl, rfl, rfl, trivial⟩ ?_); (try simp only [nA, Nat.reduceBEq, Nat.reduceEqDiff, ↓reduceIte, Nat.reduceAdd, Nat.reduceSub])
    refine axDone (by kernel_rfl) ?_
    (refine hK _ ?_; clear hK K; (try simp only [nA, Nat.reduceBEq, Nat.reduceEqDiff, ↓reduceIte, Nat.reduceAdd, Nat.reduceSub]))
    refine AW.gh (Gh.openB (r := 1) 2 (Nat.le_of_ble_eq_true rfl) rfl rfl (by simp)) ?_; (try simp only [nA, Nat.reduceBEq, Nat.reduceEqDiff, ↓reduceIte, Nat.reduceAdd, Nat.reduceSub])
    refine AW.gh (Gh.openB (r := 2) 3 (Nat.le_of_ble_eq_true rfl) rfl rfl (by simp)) ?_; (try simp only [nA, Nat.reduceBEq, Nat.reduceEqDiff, ↓reduceIte, Nat.reduceAdd, Nat.reduceSub])
    refine AW.gh (Gh.openB (r := 3) 4 (Nat.le_of_ble_eq_true rfl) rfl rfl (by simp)) ?_; (try simp only [nA, Nat.reduceBEq, Nat.reduceEqDiff, ↓reduceIte, Nat.reduceAdd, Nat.reduceSub])
    refine AW.gh (Gh.nest (r := 1) (q := 5) 0 0 rfl rfl rfl rfl (by decide) rfl) ?_; (try simp only [nA, Nat.reduceBEq, Nat.reduceEqDiff, ↓reduceIte, Nat.reduceAdd, Nat.reduceSub])
    refine AW.gh (Gh.nest (r := 2) (q := 6) 0 0 rfl rfl rfl rfl (by decide) rfl) ?_; (try simp only [nA, Nat.reduceBEq, Nat.reduceEqDiff, ↓reduceIte, Nat.reduceAdd, Nat.reduceSub])
    refine AW.gh (Gh.nest (r := 3) (q := 7) 0 0 rfl rfl rfl rfl (by decide) rfl) ?_; (try simp only [nA, Nat.reduceBEq, Nat.reduceEqDiff, ↓reduceIte, Nat.reduceAdd, Nat.reduceSub])
    refine AW.gh (Gh.freezeR (r := 1) rfl (flat2_one _) (es2 := [[.ro ((asgF W).1.map iv)]]) rfl) ?_; (try simp only [nA, Nat.reduceBEq, Nat.reduceEqDiff, ↓reduceIte, Nat.reduceAdd, Nat.reduceSub])
    refine AW.gh (Gh.freezeR (r := 2) rfl (flat2_one _) (es2 := [[.ro ((asgF W).2.1.map iv)]]) rfl) ?_; (try simp only [nA, Nat.reduceBEq, Nat.reduceEqDiff, ↓reduceIte, Nat.reduceAdd, Nat.reduceSub])
    refine AW.gh (Gh.freezeR (r := 3) rfl (flat2_one _) (es2 := [[.ro ((asgF W).2.2.map iv)]]) rfl) ?_; (try simp only [nA, Nat.reduceBEq, Nat.reduceEqDiff, ↓reduceIte, Nat.reduceAdd, Nat.reduceSub])
    skip
    refine AW.ret ?_; (try simp only [thenE, inBlk, Nat.reduceEqDiff, ↓reduceIte]); exact RQ.of0 rfl (.cell1 (Nat.le_of_ble_eq_true rfl) rfl rfl rfl ag23 rfl rfl rfl (.cell1 (Nat.le_of_ble_eq_true rfl) rfl rfl rfl ag23 rfl rfl rfl (.cell1 (Nat.le_of_ble_eq_true rfl) rfl rfl rfl ag23 rfl rfl rfl .nil)))
end Go.Proofs.Ytjgbbffcjbmjmaa