import Derived.Test.YtnflkbgappgdiaaEk
import Derived.Test.YtnflkbgappgdiaaAbO
namespace Go.Proofs.Ytnflkbgappgdiaa
open Go.RowKit Go.Shelf

/-! ### The library's stable sort, at this program -/
def laysGt8_ren : Go.Shelf.Ren := ⟨fun | 8 => 34 | 13 => 46 | 14 => 47 | 16 => 49 | 15 => 48 | 29 => 59 | 30 => 60 | 42 => 61 | 49 => 62 | n => n, fun | 20 => 20 | 26 => 68 | 36 => 78 | 0 => 0 | 38 => 80 | 42 => 84 | 3 => 3 | 4 => 4 | 47 => 90 | 17 => 17 | 33 => 75 | 34 => 76 | 89 => 105 | 12 => 12 | 56 => 97 | 82 => 98 | 5 => 5 | 83 => 99 | 84 => 100 | 85 => 101 | 86 => 102 | 87 => 103 | n => n, fun | n => n⟩
theorem laysGt8 : Go.Proofs.LaysGt.n8 Try.prog laysGt8_ren := {
  mixed := by kernel_rfl
  f8 := Try.func34.trans (congrArg some (by kernel_rfl))
  f13 := Try.func46.trans (congrArg some (by kernel_rfl))
  f14 := Try.func47.trans (congrArg some (by kernel_rfl))
  f15 := Try.func48.trans (congrArg some (by kernel_rfl))
  f16 := Try.func49.trans (congrArg some (by kernel_rfl))
  f29 := Try.func59.trans (congrArg some (by kernel_rfl))
  f30 := Try.func60.trans (congrArg some (by kernel_rfl))
  f42 := Try.func61.trans (congrArg some (by kernel_rfl))
  f49 := Try.func62.trans (congrArg some (by kernel_rfl))
  t0 := Try.underlying0
  a0 := Try.isAgg0
  z0 := Try.sizeOf0
  v0 := Try.zeroValue0
  i0 := by kernel_rfl
  t3 := Try.underlying3
  a3 := Try.isAgg3
  z3 := Try.sizeOf3
  v3 := Try.zeroValue3
  i3 := by kernel_rfl
  t4 := Try.underlying4
  a4 := Try.isAgg4
  z4 := Try.sizeOf4
  v4 := Try.zeroValue4
  i4 := by kernel_rfl
  t5 := Try.underlying5
  a5 := Try.isAgg5
  z5 := Try.sizeOf5
  v5 := Try.zeroValue5
  i5 := by kernel_rfl
  t12 := Try.underlying12
  a12 := Try.isAgg12
  z12 := Try.sizeOf12
  v12 := Try.zeroValue12
  i12 := by kernel_rfl
  t17 := Try.underlying17
  a17 := Try.isAgg17
  z17 := Try.sizeOf17
  v17 := Try.zeroValue17
  i17 := by kernel_rfl
  t20 := Try.underlying20
  a20 := Try.isAgg20
  z20 := Try.sizeOf20
  v20 := Try.zeroValue20
  i20 := by kernel_rfl
  t26 := Try.underlying68
  a26 := Try.isAgg68
  z26 := Try.sizeOf68
  v26 := Try.zeroValue68
  i26 := by kernel_rfl
  t33 := Try.underlying75
  a33 := Try.isAgg75
  z33 := Try.sizeOf75
  v33 := Try.zeroValue75
  i33 := by kernel_rfl
  t34 := Try.underlying76
  a34 := Try.isAgg76
  z34 := Try.sizeOf76
  v34 := Try.zeroValue76
  i34 := by kernel_rfl
  t36 := Try.underlying78
  a36 := Try.isAgg78
  z36 := Try.sizeOf78
  v36 := Try.zeroValue78
  i36 := by kernel_rfl
  t38 := Try.underlying80
  a38 := Try.isAgg80
  z38 := Try.sizeOf80
  v38 := Try.zeroValue80
  i38 := by kernel_rfl
  t42 := Try.underlying84
  a42 := Try.isAgg84
  z42 := Try.sizeOf84
  v42 := Try.zeroValue84
  i42 := by kernel_rfl
  t47 := Try.underlying90
  a47 := Try.isAgg90
  z47 := Try.sizeOf90
  v47 := Try.zeroValue90
  i47 := by kernel_rfl
  t56 := Try.underlying97
  a56 := Try.isAgg97
  z56 := Try.sizeOf97
  v56 := Try.zeroValue97
  i56 := by kernel_rfl
  t82 := Try.underlying98
  a82 := Try.isAgg98
  z82 := Try.sizeOf98
  v82 := Try.zeroValue98
  i82 := by kernel_rfl
  t83 := Try.underlying99
  a83 := Try.isAgg99
  z83 := Try.sizeOf99
  v83 := Try.zeroValue99
  i83 := by kernel_rfl
  t84 := Try.underlying100
  a84 := Try.isAgg100
  z84 := Try.sizeOf100
  v84 := Try.zeroValue100
  i84 := by kernel_rfl
  t85 := Try.underlying101
  a85 := Try.isAgg101
  z85 := Try.sizeOf101
  v85 := Try.zeroValue101
  i85 := by kernel_rfl
  t86 := Try.underlying102
  a86 := Try.isAgg102
  z86 := Try.sizeOf102
  v86 := Try.zeroValue102
  i86 := by kernel_rfl
  t87 := Try.underlying103
  a87 := Try.isAgg103
  z87 := Try.sizeOf103
  v87 := Try.zeroValue103
  i87 := by kernel_rfl
  t89 := Try.underlying105
  a89 := Try.isAgg105
  z89 := Try.sizeOf105
  v89 := Try.zeroValue105
  i89 := by kernel_rfl }
section
open Go.Sort Go.Lib
variable {α : Type} [Inhabited α]
theorem size_insInner (lt : α → α → Bool) (a : Nat) : ∀ (j : Nat) (d : Array α), (insInner lt a j d).size = d.size
  | 0, d => by unfold insInner; rfl
  | j + 1, d => by
    unfold insInner
    split
    · rw [size_insInner lt a j, size_swp]
    · rfl
theorem size_insOuter (lt : α → α → Bool) (a b : Nat) : ∀ (n i : Nat) (d : Array α), b - i = n → (insOuter lt a b i d).size = d.size
  | 0, i, d, h => by unfold insOuter; rw [if_neg (by omega)]
  | n + 1, i, d, h => by unfold insOuter; rw [if_pos (by omega), size_insOuter lt a b n (i + 1) _ (by omega), size_insInner]
theorem size_insSort (lt : α → α → Bool) (d : Array α) (a b : Nat) : (insertionSort lt d a b).size = d.size := size_insOuter lt a b _ _ d rfl
end
set_option maxHeartbeats 2000000 in
theorem less35 {W : World} {A a B b L lo D dd E ee blk len cap size c : Nat} {n tot : Int} {wt : Nat → Int} {G : Nat → Nat} (hA : W.cell? ⟨A, a, none⟩ = some (.int .i64 n)) (hB : W.cell? ⟨B, b, none⟩ = some (.slice (some ⟨L, lo, none⟩) len cap))
    (hw : ∀ t, t < len → W.cell? ⟨L, lo + t * 2 + 1, none⟩ = some (.int .i64 (wt t))) (hD : W.cell? ⟨D, dd, none⟩ = some (.slice (some ⟨blk, 0, none⟩) size c)) (hc : ∀ t, t < size → W.cell? ⟨blk, t, none⟩ = some (.int .i64 (G t : Nat))) (hE : W.cell? ⟨E, ee, none⟩ = some (.int .i64 tot))
    (i j : Nat) (hi : i < size) (hj : j < size) (hGi : G i < len) (hGj : G j < len) (ht : 0 < tot) (hsz : size < 4611686018427387904) (hlen : len < 4611686018427387904) :
    Calls Try.prog 35 #[.int .i64 i, .int .i64 j, .pointer (some ⟨A, a, none⟩), .pointer (some ⟨B, b, none⟩), .pointer (some ⟨D, dd, none⟩), .pointer (some ⟨E, ee, none⟩)] W fun e w' => e = .returned (.bool (decide ((wrap64 (n * wt (G i))).tmod tot > (wrap64 (n * wt (G j))).tmod tot))) ∧ ∃ q, w' = W.drewN q := by
  have ci := hc i hi
  have cj := hc j hj
  have wi := hw _ hGi
  have wj := hw _ hGj
  have h0 : tot ≠ 0 := by omega
  go_enter Try.func35, Try.ntmps35
  go_wp2
  go_quiet (fail)
  go_wp2
  go_ret
  exact ⟨rfl, nq, rfl⟩
def encF {m : Nat} (x : Fin m) : Value := .int .i64 ((x.val : Nat) : Int)
def ltR (n W : Int) (xs : List Pr) {m : Nat} (x y : Fin m) : Bool := decide (remP n W (xs.getD x.val default) > remP n W (xs.getD y.val default))
theorem rop_inv {P : Program} {S : Nat → Prop} {w : World} {p : Value} {c : AV} (h : Rep P S w [] p (.rop [c])) : ∃ g o u, p = .pointer (some ⟨g, o, none⟩) ∧ S g ∧ w.cell? ⟨g, o, none⟩ = some u ∧ Rep P S w [] u c := by
  generalize hbs : ([] : List Nat) = bs at h
  cases h with
  | @rop A us cs hr hl hc =>
    match us, hl with
    | [u], _ =>
      obtain ⟨g, o, e, hS, hcell⟩ := hr (by simp)
      injection e with e
      subst e
      exact ⟨g, o, u, rfl, hS, by simpa using hcell 0 u rfl, hc 0 u c rfl rfl⟩
theorem flat_av (xs : List Pr) : ∀ t, t < xs.length → (xs.map Pr.av).flatten[2 * t + 1]? = some (.v (.int .i64 (xs.getD t default).amt)) := by
  induction xs with
  | nil => intro t h; simp at h
  | cons p xs ih =>
    intro t h
    cases t with
    | zero => rfl
    | succ t =>
      have := ih t (by simpa using h)
      rw [List.map_cons, List.flatten_cons, show 2 * (t + 1) + 1 = (2 * t + 1) + 2 by omega]
      show (AV.v (Value.string p.name) :: AV.v (Value.int .i64 p.amt) :: (xs.map Pr.av).flatten)[2 * t + 1 + 2]? = _
      simpa using this
theorem flat_lenP (xs : List Pr) : (xs.map Pr.av).flatten.length = 2 * xs.length := by
  induction xs with
  | nil => rfl
  | cons p xs ih => rw [List.map_cons, List.flatten_cons, List.length_append, ih]; show 2 + _ = _; simp; omega
theorem ro_inv {P : Program} {S : Nat → Prop} {w : World} {u : Value} {xs : List Pr} (h : Rep P S w [] u (.ro (xs.map Pr.av))) (h0 : 0 < xs.length) :
    ∃ L lo cap, u = .slice (some ⟨L, lo, none⟩) xs.length cap ∧ S L ∧ ∀ t, t < xs.length → w.cell? ⟨L, lo + t * 2 + 1, none⟩ = some (.int .i64 (xs.getD t default).amt) := by
  generalize hes : xs.map Pr.av = es at h
  generalize hbs : ([] : List Nat) = bs at h
  cases h with
  | @ro A c sz _ us h1 h2 hs hr hl hc =>
    subst hes
    obtain ⟨g, o, e, hS, hcell⟩ := hr (by rw [hl, flat_lenP]; omega)
    subst e
    refine ⟨g, o, c, by rw [List.length_map], hS, fun t ht => ?_⟩
    have hlt : 2 * t + 1 < us.length := by rw [hl, flat_lenP]; omega
    have h5 := hc _ _ _ (List.getElem?_eq_getElem hlt) (flat_av xs t ht)
    have h6 := hcell _ _ (List.getElem?_eq_getElem hlt)
    rw [show o + t * 2 + 1 = o + (2 * t + 1) by omega, h6, h5.v_inv.1]
theorem wrap_id {x : Int} (h : 0 ≤ x ∧ x ≤ 1152921504606846976) : wrap64 x = x := by unfold wrap64; omega
open Go.Sort in
theorem less_reads {n : Int} {xs : List Pr} {k : Nat} (hn : 0 ≤ n ∧ n ≤ 1073741824) (hp : partyE xs = 0) (hk : xs.length = k + 1) {S : Nat → Prop} {w : World} {lb : List Value} {u : Value} {blk c size : Nat} (hu : u = .slice (some ⟨blk, 0, none⟩) size c) (hs : size ≤ 1000)
    (hns : ¬ S blk) (hblk : blk < w.heap.size) {ds : Array (Fin (k + 1))} (hds : ds.size = size) (hH : Holds encF w blk 0 ds) (hcaps : RL (Rep Try.prog S w []) lb [.rop [.v (.int .i64 n)], .rop [.ro (xs.map Pr.av)], .rop [.v u], .rop [.v (.int .i64 (sumA xs))]]) :
    LessReads Try.prog 35 lb.toArray (encF (m := k + 1)) (ltR n (sumA xs) xs) blk 0 ds.size w := by
  obtain ⟨p1, l1, rfl, r1, hcaps⟩ := hcaps.cons_inv
  obtain ⟨p2, l2, rfl, r2, hcaps⟩ := hcaps.cons_inv
  obtain ⟨p3, l3, rfl, r3, hcaps⟩ := hcaps.cons_inv
  obtain ⟨p4, l4, rfl, r4, hcaps⟩ := hcaps.cons_inv
  obtain rfl := hcaps.nil_inv
  obtain ⟨A, a, u1, rfl, sA, cA, q1⟩ := rop_inv r1
  obtain ⟨B, b, u2, rfl, sB, cB, q2⟩ := rop_inv r2
  obtain ⟨D, dd, u3, rfl, sD, cD, q3⟩ := rop_inv r3
  obtain ⟨E, ee, u4, rfl, sE, cE, q4⟩ := rop_inv r4
  have hne := party_ne hp
  have hW := party_sum hp
  have h8 := (party_ok hp).1
  obtain ⟨L, lo, cap, rfl, sL, cL⟩ := ro_inv q2 hne
  rw [q1.v_inv.1] at cA
  rw [q3.v_inv.1, hu] at cD
  rw [q4.v_inv.1] at cE
  intro m os dk hdk i j hi hj
  have hK : Kept (fun q => q ≠ blk) w (sortWorld encF w blk 0 m dk os) := keptE dk
  have hne' : ∀ {g : Nat}, S g → g ≠ blk := fun hg e => hns (e ▸ hg)
  have hrow : ∀ t, t < size → (sortWorld encF w blk 0 m dk os).cell? ⟨blk, t, none⟩ = some (.int .i64 ((dk[t]!.val : Nat) : Int)) := fun t ht => by
    have := cell?_putRow encF (Sort.ahead w m) blk 0 ds dk (holds_ahead _ _ _ _ _ _ hH) hdk t (by omega)
    unfold sortWorld
    rw [cell?_grow _ _ _ (by simpa [Sort.ahead] using hblk)]
    rw [Nat.zero_add] at this
    exact this
  have hx := fun t => List.getElem_mem (l := xs) (n := t)
  have hmb : ∀ t, t < xs.length → 0 ≤ n * (xs.getD t default).amt ∧ n * (xs.getD t default).amt ≤ 1152921504606846976 := fun t ht => by
    refine mul_bd hn (party_in hp (p := xs.getD t default) ?_)
    rw [List.getD_eq_getElem?_getD, List.getElem?_eq_getElem ht]
    exact List.getElem_mem _
  have := less35 (W := sortWorld encF w blk 0 m dk os) (wt := fun t => (xs.getD t default).amt) (G := fun t => dk[t]!.val) (hK.cell cA (hne' sA)) (hK.cell cB (hne' sB)) (fun t ht => hK.cell (cL t ht) (hne' sL)) (hK.cell cD (hne' sD)) hrow (hK.cell cE (hne' sE)) i j (by omega) (by omega) (by rw [hk]; exact dk[i]!.isLt) (by rw [hk]; exact dk[j]!.isLt) hW.1 (by omega) (by omega)
  have hgi : dk[i]!.val < xs.length := by rw [hk]; exact dk[i]!.isLt
  have hgj : dk[j]!.val < xs.length := by rw [hk]; exact dk[j]!.isLt
  simp only [wrap_id (hmb _ hgi), wrap_id (hmb _ hgj), Int.tmod_eq_emod_of_nonneg (hmb _ hgi).1, Int.tmod_eq_emod_of_nonneg (hmb _ hgj).1] at this
  exact this
end Go.Proofs.Ytnflkbgappgdiaa
