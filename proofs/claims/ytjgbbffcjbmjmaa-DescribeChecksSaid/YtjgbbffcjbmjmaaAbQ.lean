import Derived.Test.YtjgbbffcjbmjmaaAbP
import Derived.Lib.ConvBytes
import Derived.Laws.IdiomStrings
namespace Go.Proofs.Ytjgbbffcjbmjmaa
open Go.RowKit
set_option linter.unusedSimpArgs false
set_option linter.unusedVariables false
set_option linter.unusedSectionVars false

/-! ### Bytes made out of a string: a row with a mark behind its end -/
def byC (l : List UInt8) : List Value := l.map fun b => .int .u8 (b.toNat : Nat)
theorem byC_len (l : List UInt8) : (byC l).length = l.length := by simp [byC]
theorem byC_one (l : List UInt8) : ∀ u ∈ byC l, u.oneCell' = true := fun u hu => by
  obtain ⟨b, _, rfl⟩ := List.mem_map.1 hu
  rfl
theorem byC_set {l : List UInt8} {i : Nat} {b : UInt8} : (byC l).set i (.int .u8 (b.toNat : Nat)) = byC (l.set i b) := by
  unfold byC
  rw [List.map_set]
section
variable {C : Cx} {o : Oper} {ev : Operand → AV} {T : Sl}
theorem Rep.byt_inv {P : Program} {S : Nat → Prop} {w : World} {bs : List Nat} {v u : Value} {e : TypeId} {us : List Value} (h : Rep P S w bs v (.byt u e us)) :
    v = u ∧ ∃ g c fr cur, u = slv g us.length c ∧ bs = [g] ∧ w.heap[g]? = some (.cells cur e fr) ∧ fr.1 = cur.size ∧ cur.size = c ∧ cur.toList.take us.length = us ∧ (∀ u ∈ us, u.oneCell' = true) ∧ us.length ≤ c ∧ c ≤ maxLen := by
  cases h with
  | byt hg hf hc ht ho h1 h2 => exact ⟨rfl, _, _, _, _, rfl, rfl, hg, hf, hc, ht, ho, h1, h2⟩
theorem Mem.s1 {S : Nat → Prop} {vals : List Value} {bss : List (List Nat)} {w : World} (hm : Mem C T S vals bss w) : C.w0.heap.size ≤ w.heap.size := hm.kept.size
/-- A string becomes bytes: a new slot. -/
theorem op_s2b {src dst e : TypeId} {y : Operand} {s : ByteArray} (ho : o.op = .convert src dst y) (hy : ev y = .v (.string s)) (hs : C.P.underlying src = some .string) (hd : C.P.underlying dst = some (.slice e)) (he : C.P.underlying e = some (.int .u8)) (hl : s.size ≤ maxLen) :
    OpX C o ev T fun x T' => ∃ g c, x = .v (slv g s.size c) ∧ s.size ≤ c ∧ T' = pushT T (.byt (slv g s.size c) e (byC s.data.toList)) := by
  intro a w S vals bss hm h K hK Q
  have h1 := h y (by simp [ho, Op.operands])
  rw [hy] at h1
  have hrun := run_bytes_of_string (P := C.P) w src dst e s hs hd he
  have hlen : (byC s.data.toList).length = s.size := by rw [byC_len]; show s.data.toList.length = s.data.size; simp
  have hsz : (bytesRow s (grownCap w s.size 0 e)).size = grownCap w s.size 0 e := by
    have := grownCap_ge w s.size 0 e
    have h2 : s.data.size = s.size := rfl
    unfold bytesRow
    simp [h2]
    omega
  have htake : (bytesRow s (grownCap w s.size 0 e)).toList.take s.size = byC s.data.toList := by
    have h2 : s.data.size = s.size := rfl
    unfold bytesRow byC
    rw [Array.toList_append, Array.toList_map, List.take_append_of_le_length (by simp [h2])]
    exact List.take_of_length_le (by simp [h2])
  generalize hw' : (w.drew.alloc (.cells (bytesRow s (grownCap w s.size 0 e)) e ((bytesRow s (grownCap w s.size 0 e)).size, (bytesRow s (grownCap w s.size 0 e)).size + 1))) = w' at hrun
  have hk : Kept (fun _ => True) w w' := by rw [← hw']; exact (Kept.refl _ _).drew.alloc _
  have hnew : w'.heap[w.heap.size]? = some (.cells (bytesRow s (grownCap w s.size 0 e)) e ((bytesRow s (grownCap w s.size 0 e)).size, (bytesRow s (grownCap w s.size 0 e)).size + 1)) := by
    rw [← hw']
    exact heap_alloc_new w.drew _
  have hr : Rep C.P S w' [w.heap.size] (slv w.heap.size s.size (grownCap w s.size 0 e)) (.byt (slv w.heap.size s.size (grownCap w s.size 0 e)) e (byC s.data.toList)) := by
    have := Rep.byt (P := C.P) (S := S) (us := byC s.data.toList) hnew rfl hsz (by rw [hlen]; exact htake) (byC_one _) (by rw [hlen]; exact grownCap_ge w s.size 0 e) (grownCap_le_maxLen w s.size 0 e hl)
    rwa [hlen] at this
  obtain ⟨hm', hf⟩ := hm.push hk hr (by simp) (fun b hb => by simp at hb; omega)
  unfold Oper.wp execOp
  simp only [ho, h1.v, hrun, Sem.run_bind, Result.andThen_ok, Sem.run_pure, Oper.upon_skip]
  exact hK _ _ ⟨_, _, rfl, grownCap_ge w s.size 0 e, rfl⟩ _ _ _ _ _ hm' hf (TmpOK.v_ rfl)
/-- A byte is stored. -/
theorem op_store_b {t : TypeId} {y z : Operand} {v : Value} {g n c j : Nat} {e : TypeId} {us us' : List Value} (r k : Nat) (ho : o.op = .store t y z) (hy : ev y = .v (ptv g j)) (hz : ev z = .v v) (hT : T.slots[r]? = some (k, .byt (slv g n c) e us)) (hv1 : v.oneCell' = true) (hs : sizeIs C.P t 1) (hj : j < us.length)
    (he : us.set j v = us') {T' : Sl} (hT' : (⟨T.slots.set r (k, .byt (slv g n c) e us'), T.ep⟩ : Sl) = T') : OpJ C o ev T .any T' := by
  subst hT'; subst he
  intro a w S vals bss hm h K hK Q
  have h1 := h y (by simp [ho, Op.operands])
  have h2 := h z (by simp [ho, Op.operands])
  rw [hy] at h1
  rw [hz] at h2
  obtain ⟨v0, bs, hv, hb, hrep0⟩ := hm.slot hT
  obtain ⟨rfl, g', c', fr, cur, hve, rfl, hg, hf, hc, ht, ho1, hl1, hl2⟩ := hrep0.byt_inv
  injection hve with e1 e2 e3
  injection e1 with e1
  injection e1 with e1
  subst e1; subst e2; subst e3
  have hjc : j < cur.size := by omega
  have hcell : w.cell? ⟨g, j, none⟩ = some cur[j] := by simp [World.cell?, hg, hjc]
  have hfr : w.frozen? ⟨g, j, none⟩ = false := by
    obtain ⟨lo, hi⟩ := fr
    simp only at hf
    simp [World.frozen?, hg]
    omega
  have hcs : v.cells.toList = [v] := by cases v <;> first | rfl | cases hv1
  have hcs1 : v.cells.size = 1 := by rw [← Array.length_toList, hcs]; rfl
  have hst := run_storeCells_cells (P := C.P) g j [v] 0 w (fun q hq => by simp at hq; subst hq; simp [hcell]) (fun q hq => by simp at hq; subst hq; simpa using hfr) (fun u hu => by simp at hu; subst hu; exact hv1)
  have hrun : (Instr.storeAt t (.pointer (some ⟨g, j, none⟩)) v).run C.P w = .ok () (w.setCell ⟨g, j, none⟩ v) := by
    simp [Instr.storeAt, Instr.sureAddr, storeVar, run_sizeOf hs, hcs1, hcs, hst, World.setCells]
  have hnew : (w.setCell ⟨g, j, none⟩ v).heap[g]? = some (.cells (cur.set j v hjc) e fr) := by
    simp [World.setCell, Array.getElem?_modify, hg, Array.setIfInBounds, hjc]
  have hk : Kept (fun q => q ∉ [g]) w (w.setCell ⟨g, j, none⟩ v) := (Kept.refl _ _).setCell (.inl (by simp)) v
  have hrep' : Rep C.P S (w.setCell ⟨g, j, none⟩ v) [g] (slv g us.length c) (.byt (slv g us.length c) e (us.set j v)) := by
    have := Rep.byt (P := C.P) (S := S) (us := us.set j v) (c := c) hnew (by simpa using hf) (by simpa using hc) (by
      have : (cur.set j v hjc).toList = cur.toList.set j v := by simp
      rw [this, List.length_set, List.take_set, ht]) (fun u hu => by
      rcases List.mem_or_eq_of_mem_set hu with h | h
      · exact ho1 u h
      · subst h; exact hv1) (by rw [List.length_set]; exact hl1) hl2
    rwa [List.length_set] at this
  obtain ⟨hm', hf'⟩ := hm.set (k' := k) (ep' := T.ep) hT hv hb hk hrep' (by simp) (fun b hb' => .inl hb') (.inl ⟨rfl, rfl, rfl, (fun e es h => by cases h), (fun b ks h => by cases h)⟩)
  unfold Oper.wp execOp
  simp only [ho, h1.v, h2.v, ptv, hrun, Sem.run_bind, Result.andThen_ok, Sem.run_pure, Oper.upon_skip]
  exact hK undef _ _ _ _ hm' hf' trivial
/-- Bytes become a string. -/
theorem op_b2s {src dst e e2 : TypeId} {y : Operand} {g n c : Nat} {l : List UInt8} {s : ByteArray} (r k : Nat) (ho : o.op = .convert src dst y) (hy : ev y = .v (slv g n c)) (hT : T.slots[r]? = some (k, .byt (slv g n c) e (byC l))) (hs : C.P.underlying src = some (.slice e2)) (he : C.P.underlying e2 = some (.int .u8)) (hd : C.P.underlying dst = some .string) (hsl : (⟨l.toArray⟩ : ByteArray) = s) : OpR C o ev T (.v (.string s)) := by
  subst hsl
  intro a w S vals bss hm h
  have h1 := h y (by simp [ho, Op.operands])
  rw [hy] at h1
  obtain ⟨v0, bs, hv, hb, hrep0⟩ := hm.slot hT
  obtain ⟨rfl, g', c', fr, cur, hve, rfl, hg, hf, hc, ht, ho1, hl1, hl2⟩ := hrep0.byt_inv
  injection hve with e1 e2 e3
  injection e1 with e1
  injection e1 with e1
  subst e1; subst e3
  rw [byC_len] at e2 ht hl1
  subst e2
  refine ⟨.string ⟨l.toArray⟩, fun w' hk => ?_, TmpOK.v_ rfl⟩
  have hrun := run_convert_bytes_back (P := C.P) w' src dst e2 ⟨g, 0, none⟩ c l hs he hd (fun j hj => by
    have hjc : j < cur.size := by omega
    have h3 : cur.toList[j]? = (byC l)[j]? := by rw [← ht, List.getElem?_take, if_pos hj]
    have h4 : w.cell? ⟨g, j, none⟩ = some (.int .u8 (l[j].toNat : Nat)) := by
      have : cur[j]? = some (.int .u8 (l[j].toNat : Nat)) := by
        rw [← Array.getElem?_toList, h3]
        unfold byC
        simp [hj]
      simp [World.cell?, hg, this]
    have := hk.cell h4 trivial
    simpa [add_off] using this)
  simp [execOp, ho, h1.v, slv, hrun]
end
end Go.Proofs.Ytjgbbffcjbmjmaa
