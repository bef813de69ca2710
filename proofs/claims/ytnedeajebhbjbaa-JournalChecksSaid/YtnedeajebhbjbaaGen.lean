import Derived.Test.YtnedeajebhbjbaaFra
namespace Go.Proofs.Ytnedeajebhbjbaa
open Go.RowKit

/-- Some records are made. -/
def GenTo (w : World) (b : Nat) (most : Int) (e : Ending) (w' : World) : Prop :=
  ∃ (xs : List (List UInt8)) (A : Option Addr) (c : Nat), e = .returned (.slice A xs.length c) ∧ xs.length ≤ c ∧ c ≤ maxLen ∧ ((xs.length : Int) ≤ most) ∧ (∀ r ∈ xs, r.length ≤ 8) ∧ Own RBs 1 22 w.heap.size (Fr w) w' (.slice A xs.length c) xs ∧ SrcIs w' b ∧ Kept (· ≠ b) w w'

structure GenRel (w : World) (b : Nat) (most j : Int) (v : Value) (xs : List (List UInt8)) (wr : World) : Prop where
  own : Own RBs 1 22 w.heap.size (Fr w) wr v xs
  small : ∀ r ∈ xs, r.length ≤ 8
  src : SrcIs wr b
  kept : Kept (· ≠ b) w wr
  lo : 0 ≤ j
  hi : (xs.length : Int) + j ≤ most

structure FillRel (W : World) (b g n : Nat) (ys : List UInt8) (wr : World) : Prop where
  own : Own RB 1 5 g All wr (.slice (some ⟨g, 0, none⟩) n n) ys
  len : ys.length = n
  src : SrcIs wr b
  kept : Kept (fun k => k ≠ b ∧ k ≠ g) W wr

theorem made_enc (n : Nat) (S : Nat → Prop) (w : World) : Enc RB 1 S w (madeCells (Value.int .u8 0).cells (n * 1)).toList (List.replicate n (0 : UInt8)) := by
  have e : (madeCells (Value.int .u8 0).cells (n * 1)).toList = (List.replicate n (0 : UInt8)).map u8v := by
    apply List.ext_getElem
    · simp [madeCells]
    · intro i h1 h2
      simp [madeCells, Value.cells, u8v]
      rw [Nat.mod_one]; rfl
  rw [e]
  exact Enc.flat1 _
theorem Own.cell1 {α : Type} {f : α → Value} {base : Nat} {e : TypeId} {S : Nat → Prop} {w : World} {g n c : Nat} {ys : List α} (h : Own (flat fun x => [f x]) 1 e base S w (.slice (some ⟨g, 0, none⟩) n c) ys) {k : Nat} (hk : k < ys.length) :
    w.cell? ⟨g, k, none⟩ = some (f ys[k]) ∧ w.frozen? ⟨g, k, none⟩ = false := by
  obtain ⟨news, ho, he⟩ := h
  have hn : n = ys.length := by
    rcases ho.2 with ⟨h, _⟩ | ⟨g', cap, cur, h, _⟩
    · cases h
    · injection h
  subst hn
  have h1 := ho.cellAt k (by omega)
  have h2 := ho.frozenAt k
  rw [he.to_map] at h1
  exact ⟨by rw [h1]; simp [hk], h2⟩
theorem Own.set1 {α : Type} {f : α → Value} {base : Nat} {e : TypeId} {S : Nat → Prop} {w : World} {g n c : Nat} {ys : List α} (h : Own (flat fun x => [f x]) 1 e base S w (.slice (some ⟨g, 0, none⟩) n c) ys) (k : Nat) (x : α) :
    Own (flat fun x => [f x]) 1 e base S (w.setCell ⟨g, k, none⟩ (f x)) (.slice (some ⟨g, 0, none⟩) n c) (ys.set k x) := by
  obtain ⟨news, ho, he⟩ := h
  have hn : n = ys.length := by
    rcases ho.2 with ⟨h, _⟩ | ⟨g', cap, cur, h, _⟩
    · cases h
    · injection h
  subst hn
  have h1 := (ho.stored k (f x)).1
  have h2 := he.to_map
  subst h2
  refine ⟨(ys.set k x).map f, ?_, Enc.flat1 _⟩
  rw [List.length_set, List.map_set]
  exact h1

theorem Own.flatS {α : Type} {f : α → List Value} {sz base : Nat} {e : TypeId} {S S' : Nat → Prop} {w : World} {v : Value} {ys : List α} (h : Own (flat f) sz e base S w v ys) : Own (flat f) sz e base S' w v ys := by
  obtain ⟨news, ho, he⟩ := h
  exact ⟨news, ho, he.1, fun i x hx => he.2 i x hx⟩
theorem Own.keptF {α : Type} {f : α → List Value} {sz base : Nat} {e : TypeId} {S S' : Nat → Prop} {w w' : World} {v : Value} {ys : List α} (hR : Good (flat f) sz) (h : Own (flat f) sz e base S w v ys) (hk : Kept S' w w') (h1 : ∀ k, v.ownBlock = some k → S' k) : Own (flat f) sz e base S w' v ys :=
  ((h.flatS (S' := fun _ => False)).kept hR hk h1 fun _ _ h => h.elim).flatS
set_option maxRecDepth 100000 in
set_option maxHeartbeats 1000000 in
theorem records_any (b : Nat) (most : Int) (w : World) (h : SrcIs w b) (hm : 0 ≤ most) (hm2 : most ≤ 1000) :
    Calls Try.prog 13 #[.pointer (some ⟨b, 0, none⟩), .int .i64 most] w (GenTo w b most) := by
  have H := Lib.hid h
  clear h
  go_enter Try.func13, Try.ntmps13
  go_wp2_with fail
  refine (n_any b _ w H.out (by unfold i64ok; omega)).mono ?_
  rintro e w1 ⟨r, ⟨hr0, hr1, -⟩, rfl, hs1, hk1⟩
  have hr2 := hr1 (by omega)
  have R0 := Lib.hid (show GenRel w b most r (.slice none 0 0) [] w1 from ⟨Own.nil, by simp, hs1, hk1, hr0, by simp; omega⟩)
  clear hs1 hk1 hr1
  go_wp2_with fail
  go_loopw [5, 6] (fun v x wr => ∃ (A1 : Option Addr) (c1 : Nat) (j : Int) (xs : List (List UInt8)), v = .slice A1 xs.length c1 ∧ x = .int .i64 j ∧ Hid (GenRel w b most j (.slice A1 xs.length c1) xs wr)) (fun _ x _ => (intOf x).toNat)
  case atStart => exact ⟨none, 0, r, [], rfl, rfl, R0⟩
  case round =>
    obtain ⟨A1, c1, j, xs, rfl, rfl, HREL⟩ := hrel
    clear R0 hr0 hr2
    have hj0 := HREL.out.lo
    have hj1 := HREL.out.hi
    by_cases hj : 0 < j
    · go_wp2_with fail
      refine (n_any b _ wr HREL.out.src (by unfold i64ok; omega)).mono ?_
      rintro e w2 ⟨r2, ⟨hr0, hr1, -⟩, rfl, hs2, hk2⟩
      have hr2 := hr1 (by omega)
      clear hr1
      obtain ⟨n, rfl⟩ := Int.eq_ofNat_of_zero_le hr0
      have hown2 := HREL.out.own.kept RBs_good hk2 (fun k hk => by have := (HREL.out.own.blk k hk).1; have := H.out.lt; omega) (fun k _ hk _ => by have := H.out.lt; unfold Fr at hk; omega)
      have HOWN := Lib.hid hown2
      have HS2 := Lib.hid hs2
      have HK2 := Lib.hid (HREL.out.kept.trans hk2)
      clear hown2 hs2 hk2 hr0
      obtain ⟨i0, hi, hz0, hz1, hz2⟩ := info_parts Try.sty22.info
      go_wp2_with (at_make; refine wp_stop ?_)
      unfold wpStop
      refine wpList_make_full w2 rfl _ _ 22 rfl w2.heap.size 5 i0 (.int .u8 0) 1 under22 hi hz0 hz1 _ _ _ _ n rfl rfl rfl rfl ?_ ?_ (Nat.le_refl _) ?_
      · rw [hz2]; omega
      · unfold maxLen; omega
      intro w3 own3 hg3
      have F0 := Lib.hid (show FillRel w2 b w2.heap.size n (List.replicate n 0) w3 from ⟨⟨_, by rw [List.length_replicate]; exact own3, made_enc _ _ _⟩, by simp, HS2.out.kept ((Kept.refl _ _).grown hg3 (by simp)), (Kept.refl _ _).grown hg3 (by simp)⟩)
      have HG := Lib.hid (show w2.heap.size = w2.heap.size from rfl)
      have hbg := HS2.out.lt
      generalize hg : w2.heap.size = g at *
      have HGG := Lib.hid hg
      clear own3 hg3 hg HG
      go_wp2_with fail
      go_loopw [22] (fun x wr => ∃ (k : Nat) (ys : List UInt8), k ≤ n ∧ x = .int .i64 k ∧ Hid (FillRel w2 b g n ys wr)) (fun x _ => n - (intOf x).toNat)
      case atStart => exact ⟨0, _, by omega, rfl, F0⟩
      case round =>
        obtain ⟨k, ys, hk, rfl, HF⟩ := hrel
        clear F0
        by_cases hkn : k < n
        · have hlt0 := HF.out.src.lt
          have hrd : Rd (· ≠ b) (wr.alloc (.cells ((([0, 1, 255, 65, 8, 100] : List Int).map (Value.int .i64))).toArray 3)) (some ⟨wr.heap.size, 0, none⟩) (([0, 1, 255, 65, 8, 100] : List Int).map (Value.int .i64)) :=
            (RdL.lit (e := 3) (S := (· ≠ b)) (Enc.flat1 (f := fun n : Int => Value.int .i64 n) (S := (· ≠ b)) (w := wr) [0, 1, 255, 65, 8, 100]) (one_good fun _ => rfl) (by omega)).to_map
          have HRD := Lib.hid hrd
          clear hrd
          go_wp2_with fail
          refine (pick_any b _ (HF.out.src.kept ((Kept.refl _ _).alloc _)) _ 6 [0, 1, 255, 65, 8, 100] HRD.out (by simp) (by simp)).mono ?_
          rintro e w4 ⟨v, hv, rfl, hs4, hk4⟩
          have hv2 : ∃ x : UInt8, v = (x.toNat : Int) := by
            simp at hv
            rcases hv with h | h | h | h | h | h <;> subst h
            · exact ⟨0, rfl⟩
            · exact ⟨1, rfl⟩
            · exact ⟨255, rfl⟩
            · exact ⟨65, rfl⟩
            · exact ⟨8, rfl⟩
            · exact ⟨100, rfl⟩
          obtain ⟨x, rfl⟩ := hv2
          have hxl := u8_lt x
          have hown4 : Own RB 1 5 g All w4 (.slice (some ⟨g, 0, none⟩) n n) ys := (HF.out.own.alloc RB_good (.cells ((([0, 1, 255, 65, 8, 100] : List Int).map (Value.int .i64))).toArray 3)).keptF RB_good hk4 (fun k hk => by simp [Value.ownBlock] at hk; omega)
          have hlen := HF.out.len
          obtain ⟨hc1, hc2⟩ := hown4.cell1 (k := k) (by omega)
          have hnext : FillRel w2 b g n (ys.set k x) (w4.setCell ⟨g, k, none⟩ (.int .u8 (x.toNat : Int))) :=
            ⟨hown4.set1 k x, by rw [List.length_set]; exact hlen, hs4.keptS ((Kept.refl (fun k => k ≠ g) w4).setCell (.inl (by simp)) _) (fun k hk => by omega),
              (((HF.out.kept.trans ((Kept.refl _ _).alloc _)).trans (hk4.mono fun k _ hk => hk.1)).setCell (.inl (by simp)) _)⟩
          have HN := Lib.hid hnext
          have hc3 : ∃ y : UInt8, w4.cell? ⟨g, k, none⟩ = some (.int .u8 (y.toNat : Int)) := ⟨_, hc1⟩
          obtain ⟨y, hc3⟩ := hc3
          clear hnext hc1 hown4 hk4 hs4 hlen hv
          go_wp2_with fail
          exact ⟨⟨k + 1, ys.set k x, by omega, by go_num, HN⟩, by simp [intOf]; omega⟩
        · obtain rfl : k = n := by omega
          have hown4 := HOWN.out.kept RBs_good HF.out.kept (fun j hj => by have := (HOWN.out.blk j hj); have := H.out.lt; have := HGG.out; omega) (fun j hj hS _ => by have := H.out.lt; have := HGG.out; unfold Fr at hS; omega)
          obtain ⟨A', c', hv, h5, h6, h7⟩ := HF.out.own.rd (S := fun j => g ≤ j) RB_good (fun j hj _ => hj)
          have hcell : RBs (fun j => g ≤ j) wr [.slice (some ⟨g, 0, none⟩) k k] ys := ⟨A', c', by rw [hv], h5, h6, h7⟩
          have hgw : g ≤ wr.heap.size := by have := HF.out.kept.size; have := HGG.out; omega
          have HLIT := Lib.hid (RdL.lit (e := 22) (Enc.single RBs_good hcell) RBs_good hgw)
          have HOWN4 := Lib.hid hown4
          have hblk := Lib.hid (HOWN.out.blk)
          have hkk := HK2.out.trans (HF.out.kept.mono (S' := (· ≠ b)) fun j hj hb => ⟨hb, by have := HGG.out; omega⟩)
          have hylen := HF.out.len
          have hsrc := HF.out.src
          have HSRC := Lib.hid hsrc
          clear hown4 h5 h6 h7 hcell hsrc hv
          go_wp2_with (at_builtin; refine wp_stop ?_)
          unfold wpStop
          refine wpList_app RBs_good Try.sty28 (HOWN4.out.alloc RBs_good _) HLIT.out (.inl fun j hj h => ⟨by have := HK2.out.size; have := HGG.out; unfold Fr; omega, fun he => by have h1 := (hblk.out j he.symm).2; have := HGG.out; omega⟩) rfl rfl rfl (m := xs.length + 1) rfl rfl rfl ?_ ?_ ?_
          · omega
          · have := HK2.out.size; have := HGG.out; simp; omega
          intro A3 c3 w5 own5 hc5 hm5 hk5 hb5
          have kw := (hkk.alloc (.cells [Value.slice (some ⟨g, 0, none⟩) k k].toArray 22)).through hk5 (HOWN4.out.alloc RBs_good _) (Nat.le_refl _)
          have kx : Kept (fun q => some q ≠ (Value.slice A1 xs.length c1).ownBlock) wr w5 := (((Kept.refl (fun _ => True) wr).alloc (.cells [Value.slice (some ⟨g, 0, none⟩) k k].toArray 22)).mono fun _ _ _ => trivial).trans hk5
          have hsrc5 : SrcIs w5 b := HSRC.out.keptS kx (fun q hq he => by have := (hblk.out q he.symm).1; have := H.out.lt; omega)
          clear kx
          have hnext : GenRel w b most (j - 1) (.slice A3 (xs ++ [ys]).length c3) (xs ++ [ys]) w5 :=
            ⟨by rw [show (xs ++ [ys]).length = xs.length + 1 by simp]; exact own5, fun r hr => by
              rcases List.mem_append.1 hr with h | h
              · exact HREL.out.small r h
              · have : r = ys := by simpa using h
                subst this; omega, hsrc5, kw, by omega, by rw [List.length_append]; simp; omega⟩
          have HN := Lib.hid hnext
          clear own5 kw hk5 hb5 hnext hsrc5 hkk hylen
          go_wp2_with fail
          exact ⟨⟨A3, c3, j - 1, xs ++ [ys], by simp, by go_num, HN⟩, by simp [intOf]; omega⟩
    · go_wp2_with fail
      go_ret
      obtain ⟨A', c', hv, h5, h6, h7⟩ := HREL.out.own.rd (S := Fr w) RBs_good (fun k hk _ => hk)
      injection hv with e1 _ e2
      subst e1; subst e2
      exact ⟨xs, A1, c1, rfl, h5, h6, by omega, HREL.out.small, HREL.out.own, HREL.out.src, HREL.out.kept⟩
end Go.Proofs.Ytnedeajebhbjbaa
