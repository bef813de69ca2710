import Derived.Test.YtnedeajebhbjbaaChk2
namespace Go.Proofs.Ytnedeajebhbjbaa
open Go.RowKit

theorem wpList_store_row {P : Program} {ops : Array Oper} {rest : List Oper} {o : Oper} {a : Act} {w : World} {Q : Exit → Act → World → Prop} (hgd : o.guard = none) {ty : TypeId} {x y : Operand} (ho : o.op = .store ty x y)
    {g : Nat} {t : TypeId} {cs cur : Array Value} (hx : a.eval x = .pointer (some ⟨g, 0, none⟩)) (hy : a.eval y = .agg cs) (hg : Blk w g t cur) (hi : (P.info? ty).map (·.size) = some cs.size) (hs : cur.size = cs.size) (h1 : cs.all (·.oneCell') = true)
    (h : ∀ w', Blk w' g t cs → w.grownBy w' (some g) → wpList P ops Q rest (a.put o.dst undef) w') : wpList P ops Q (o :: rest) a w := by
  refine wpList_plain hgd fun K hK => ?_
  have hr := run_storeVar_row (P := P) w g t ty cur cs hg hi hs h1
  unfold Oper.wp execOp
  simp only [ho, hx, hy, Instr.storeAt, Instr.sureAddr, Sem.run_bind, Sem.run_pure, Result.andThen_ok, hr]
  refine hK _ _ (h _ (setRow_heap w g cur cs t _ hg) ⟨rfl, rfl, rfl, by simp, fun k _ hk => setRow_other w g k _ (fun e => hk (by rw [e]))⟩)

def tabV (i : Nat) : Value := .int .u32 ((shN 8 (UInt32.ofNat i)).toNat : Int)
def tabK (k : Nat) : Array Value := Array.ofFn (n := 256) fun i => if i.val < k then tabV i.val else .int .u32 0
theorem tabK_size (k : Nat) : (tabK k).size = 256 := by simp [tabK]
theorem tabK_get (k i : Nat) (h : i < 256) : (tabK k)[i]? = some (if i < k then tabV i else .int .u32 0) := by
  simp [tabK, h]
theorem tabK_succ (k : Nat) (h : k < 256) : (tabK k).setIfInBounds k (tabV k) = tabK (k + 1) := by
  apply Array.ext_getElem?
  intro i
  rw [Array.getElem?_setIfInBounds]
  by_cases hi : i < 256
  · rw [tabK_get _ _ hi, tabK_get _ _ hi]
    by_cases he : k = i
    · subst he; simp [tabK_size, h]
    · rw [if_neg he]
      have : (i < k) = (i < k + 1) := by simp; omega
      simp [this]
  · have h1 : k ≠ i := by omega
    rw [if_neg h1, Array.getElem?_eq_none (by rw [tabK_size]; omega), Array.getElem?_eq_none (by rw [tabK_size]; omega)]
theorem zero57 (w : World) : (zeroValue 57).run Try.prog w = .ok (.agg (tabK 0)) w := by kernel_rfl
theorem under57 : Try.prog.underlying 57 = some (.array 256 30) := by kernel_rfl
theorem info57 : (Try.prog.info? 57).map (·.size) = some 256 := by kernel_rfl
theorem tab_one (k : Nat) : (tabK k).all (·.oneCell') = true := by
  rw [Array.all_eq_true]
  intro i hi
  simp [tabK]
  split <;> rfl

def EntTo (w : World) (e : Ending) (w' : World) : Prop := e = .returned (.agg (tabK 256)) ∧ Kept All w w'

def EntRel (w : World) (B : Nat) (k : Nat) (wr : World) : Prop := Kept All w wr ∧ Blk wr B 57 (tabK 0) ∧ Blk wr (B + 1) 57 (tabK k)
set_option maxRecDepth 100000 in
set_option maxHeartbeats 1000000 in
theorem entries_any (w : World) : Calls Try.prog 30 #[] w (EntTo w) := by
  have hz := fun W => zero57 W
  have r0 : EntRel w w.heap.size 0 ((w.alloc (.cells (tabK 0) 57)).alloc (.cells (tabK 0) 57)) := by
    refine ⟨((Kept.refl _ _).alloc _).alloc _, (Blk.new w 57 (tabK 0)).kept ((Kept.refl All _).alloc _) trivial, ?_⟩
    have := Blk.new (w.alloc (.cells (tabK 0) 57)) 57 (tabK 0)
    simpa using this
  have R0 := Lib.hid r0
  clear r0
  go_enter Try.func30, Try.ntmps30
  go_wp2
  clear hz
  generalize hB : w.heap.size = B at *
  have HB := Lib.hid hB
  clear hB
  go_loopw [4] (fun i wr => ∃ k : Nat, k ≤ 256 ∧ i = .int .i64 k ∧ EntRel w B k wr) (fun i _ => 256 - (intOf i).toNat)
  case atStart => exact ⟨0, by omega, rfl, R0.out⟩
  case round =>
    obtain ⟨k, hk, rfl, hE⟩ := hrel
    clear R0
    obtain ⟨hk0, hb0, hb1⟩ := hE
    by_cases hlt : k < 256
    · have hcell : wr.cell? ⟨B + 1, k, none⟩ = some (if k < k then tabV k else .int .u32 0) := by rw [hb1.cell, tabK_get _ _ hlt]
      have hcell' : wr.cell? ⟨B + 1, k, none⟩ = some (.int .u32 0) := by rw [hcell]; simp
      clear hcell
      have hfz := hb1.frozen k
      have hnext : EntRel w B (k + 1) (wr.setCell ⟨B + 1, k, none⟩ (tabV k)) := by
        refine ⟨hk0.setCell (.inr (by have := HB.out; simp; omega)) _, hb0.kept ((Kept.refl (· ≠ B + 1) _).setCell (.inl (by simp)) _) (by omega), ?_⟩
        have := hb1.set_ k (tabV k)
        rwa [tabK_succ k hlt] at this
      have HN := Lib.hid hnext
      clear hnext hb0 hb1 hk0
      go_wp2
      obtain ⟨wo, hwo⟩ : ∃ wo : World, wo = wr := ⟨_, rfl⟩
      go_loop [3, 9] (fun t i => ∃ j : Nat, j ≤ 8 ∧ i = .int .i64 j ∧ t = .int .u32 (shN j (UInt32.ofNat k)).toNat) (fun _ i => 8 - (intOf i).toNat)
      case atStart => exact ⟨0, by omega, rfl, by simp [shN]; omega⟩
      case round =>
        obtain ⟨j, hj, rfl, rfl⟩ := hrel
        by_cases h8 : j < 8
        · generalize hq : shN j (UInt32.ofNat k) = q
          have hq' : sh1 q = shN (j + 1) (UInt32.ofNat k) := by rw [← hq]; rfl
          have HQ' := Lib.hid hq'
          have hltq := q.toNat_lt
          clear hq hq'
          go_wp2
          · have h := ‹(bits .and .u32 (q.toNat : Int) 1 == 1) = true›
            go_round
            case rel => exact ⟨j + 1, by omega, by go_num, by rw [sh1_odd q h, HQ'.out]⟩
            case measure => simp [intOf]; omega
          · have h := ‹(bits .and .u32 (q.toNat : Int) 1 == 1) = false›
            go_round
            case rel => exact ⟨j + 1, by omega, by go_num, by rw [sh1_even q h, HQ'.out]⟩
            case measure => simp [intOf]; omega
        · obtain rfl : j = 8 := by omega
          go_wp2
          go_roundw
          case rel => exact ⟨k + 1, by omega, by go_num, HN.out⟩
          case measure => simp [intOf]; omega
    · obtain rfl : k = 256 := by omega
      go_wp2_with (first | (refine wpList_load_row rfl 57 (.tmp 1) rfl _ rfl 57 (tabK 256) (0, 0) _ hb1 under57 rfl info57 ?_) | (refine wpList_store_row rfl rfl rfl rfl hb0 info57 rfl (tab_one _) ?_))
      intro w2 hb2 hg2
      have hk2 : Kept All w w2 := hk0.grown hg2 fun k hk => .inr (by injection hk with hk; have := HB.out; omega)
      clear hk0 hb0 hb1 hg2
      go_wp2
      exact bodyPost_ret (results_cell_row rfl _ _ B 57 (tabK 256) (0, 0) _ rfl hb2 under57 rfl info57) rfl ⟨rfl, hk2⟩
end Go.Proofs.Ytnedeajebhbjbaa
