import Derived.Test.YtjgbbffcjbmjmaaAbN
import Derived.Shelf.GgSortMore.Stable
namespace Go.Proofs.Ytjgbbffcjbmjmaa
open Go.RowKit
set_option linter.unusedSimpArgs false
set_option linter.unusedVariables false
set_option linter.unusedSectionVars false

/-! ### Slices that bear a name: opened, closed, sorted -/
section
variable {C : Cx} {T : Sl} {S : Nat → Prop} {vals : List Value} {bss : List (List Nat)} {w : World}
theorem nm_open {r k : Nat} {u : Value} {e : TypeId} {es : List (List AV)} (hm : Mem C T S vals bss w) (hT : T.slots[r]? = some (k, .nm u e es)) :
    ∃ vals' bss', Mem C ⟨T.slots.set r (T.ep, .own e es), T.ep + 1⟩ S vals' bss' w ∧ Follows C.P S w T vals S w ⟨T.slots.set r (T.ep, .own e es), T.ep + 1⟩ vals' ∧
      TmpOK C.P S w ⟨T.slots.set r (T.ep, .own e es), T.ep + 1⟩ vals' u (.sl r T.ep 0 es.length) := by
  obtain ⟨v, bs, hv, hb, hrep⟩ := hm.slot hT
  have hnm : v = u ∧ Rep C.P S w bs u (.own e es) := by
    cases hrep with
    | nm h => exact ⟨rfl, h⟩
  obtain ⟨rfl, hr1⟩ := hnm
  have hrl : r < T.slots.length := (List.getElem?_eq_some_iff.1 hT).1
  obtain ⟨hm1, hf1⟩ := hm.set (k' := T.ep) (ep' := T.ep + 1) hT hv hb (Kept.refl _ w) hr1 (hm.nodup r bs hb) (fun b h => .inl h) (.inr ⟨rfl, rfl⟩)
  refine ⟨_, _, hm1, hf1, ?_⟩
  refine ⟨Nat.lt_succ_self _, hr1.one, fun e2 es2 v2 sz2 q1 q2 q3 => ?_⟩
  rw [getElem?_set_ _ _ _ _ hrl, if_pos rfl] at q1
  rw [getElem?_set_ _ _ _ _ (by rw [hm.nv]; exact hrl), if_pos rfl] at q2
  injection q1 with q1; injection q1 with _ q1; injection q1 with q1 q4
  injection q2 with q2
  subst q1; subst q2; subst q4
  obtain ⟨us1, sz1, bss1, -, hi1, hsz1, hown1, -⟩ := hr1.own_inv
  refine ⟨by omega, ?_⟩
  rcases hown1.2 with ⟨hnil, h0'⟩ | ⟨g, cap', cur, hcap, -, -, p1, p2, -⟩
  · exact ⟨none, 0, 0, hnil, by omega, Nat.le_refl _, by unfold maxLen; omega, .inl ⟨rfl, by rw [hnil, h0']⟩⟩
  · exact ⟨_, _, _, hcap, by omega, p1, p2, .inl ⟨rfl, hcap⟩⟩
theorem nm_close {r k : Nat} {u : Value} {e : TypeId} {es : List (List AV)} (hm : Mem C T S vals bss w) (hT : T.slots[r]? = some (k, .own e es)) (hu : TmpOK C.P S w T vals u (.sl r k 0 es.length)) :
    ∃ vals' bss', Mem C ⟨T.slots.set r (T.ep, .nm u e es), T.ep + 1⟩ S vals' bss' w ∧ Follows C.P S w T vals S w ⟨T.slots.set r (T.ep, .nm u e es), T.ep + 1⟩ vals' := by
  obtain ⟨v, bs, hv, hb, hrep⟩ := hm.slot hT
  obtain ⟨us, sz, bss1, -, hi, hsz, hown, -⟩ := hrep.own_inv
  obtain ⟨-, hsub⟩ := hu.2.2 e es v sz hT hv hi
  have huv : u = v := by
    obtain ⟨A, n, cap, hve, h1, h2, h3, h4⟩ := hsub
    rcases h4 with ⟨-, h4⟩ | ⟨A', h4, -⟩
    · rcases hown.2 with ⟨hnil, h0'⟩ | ⟨g, cap', cur, hcap, -⟩
      · rw [hnil] at hve
        injection hve with e1 e2 e3
        rw [h4, hnil, ← e1, ← e3, h0']
      · rw [hcap] at hve
        injection hve with e1 e2 e3
        rw [h4, hcap, ← e1, ← e3]
    · omega
  subst huv
  obtain ⟨hm1, hf1⟩ := hm.set (k' := T.ep) (ep' := T.ep + 1) hT hv hb (Kept.refl _ w) (.nm hrep) (hm.nodup r bs hb) (fun b h => .inl h) (.inr ⟨rfl, rfl⟩)
  exact ⟨_, _, hm1, hf1⟩
end
section
variable {C : Cx} {Q : Exit → Sta → Prop} {σ : Sta}
theorem Gh.openN {r k : Nat} {u : Value} {e : TypeId} {es : List (List AV)} (t : Nat) (ht : t < σ.n) (hv : σ.env t = .v u) (hT : σ.T.slots[r]? = some (k, .nm u e es)) :
    Gh C σ ⟨upd σ.env t (.sl r σ.T.ep 0 es.length), ⟨σ.T.slots.set r (σ.T.ep, .own e es), σ.T.ep + 1⟩, σ.n⟩ := by
  intro a w ⟨hd, hn, S, vals, bss, hm, he⟩
  obtain ⟨vals', bss', hm', hf, hu⟩ := nm_open hm hT
  refine ⟨hd, hn, S, vals', bss', hm', fun q hq => ?_⟩
  show TmpOK _ _ _ _ _ _ (upd σ.env t _ q)
  unfold upd
  split
  · rename_i h
    subst h
    have := he q hq
    rw [hv] at this
    rw [this.v]
    exact hu
  · exact TmpOK.follows hf (he q hq)
/-- An element of a named slice is stored: the address, the store. -/
theorem AWL.ia_store_nm {ops : Array Oper} {l : List Oper} {env : Nat → AV} {T T2 : Sl} {n : Nat} {o1 o2 : Oper} {ty d r k : Nat} {u : Value} {e : TypeId} {es es' : List (List AV)} {x1 x2 : AV}
    (hT : T.slots[r]? = some (k, .nm u e es)) (hy : env ty = .v u) (hty : ty < n)
    (hp : OpP C o1 (evA (upd env ty (.sl r T.ep 0 es.length))) ⟨T.slots.set r (T.ep, .own e es), T.ep + 1⟩ x1) (hd1 : o1.dst = some d) (hdty : d ≠ ty)
    (hj : OpJ C o2 (evA (upd (upd env ty (.sl r T.ep 0 es.length)) d x1)) ⟨T.slots.set r (T.ep, .own e es), T.ep + 1⟩ x2 T2) (hd2 : o2.dst = none)
    (hT2 : T2.slots[r]? = some (T.ep, .own e es')) (hlen : es'.length = es.length) {T3 : Sl} (hT3 : (⟨T2.slots.set r (T2.ep, .nm u e es'), T2.ep + 1⟩ : Sl) = T3)
    (h : AWL C ops Q l ⟨upd env d .any, T3, n⟩) (hg1 : o1.guard = none := by rfl) (hg2 : o2.guard = none := by rfl) (ho1 : opsOk o1 n = true := by rfl) (ho2 : opsOk o2 n = true := by rfl) :
    AWL C ops Q (o1 :: o2 :: l) ⟨env, T, n⟩ := by
  intro a w ⟨hd, hn, S, vals, bss, hm, he⟩
  have hue : a.tmps.getD ty undef = u := by
    have := he ty hty
    rw [show (⟨env, T, n⟩ : Sta).env ty = .v u from hy] at this
    exact this.v
  obtain ⟨vals1, bss1, hm1, hf1, hu1⟩ := nm_open hm hT
  have he1 : ∀ q, q < n → TmpOK C.P S w ⟨T.slots.set r (T.ep, .own e es), T.ep + 1⟩ vals1 (a.tmps.getD q undef) (upd env ty (.sl r T.ep 0 es.length) q) := fun q hq => by
    unfold upd
    split
    · rename_i h
      subst h
      rw [hue]
      exact hu1
    · exact TmpOK.follows hf1 (he q hq)
  refine wpList_plain hg1 fun K hK => ?_
  refine hp.j a w S vals1 bss1 hm1 (St.ops (σ := ⟨upd env ty (.sl r T.ep 0 es.length), ⟨T.slots.set r (T.ep, .own e es), T.ep + 1⟩, n⟩) hn he1 ho1) K (fun v1 w1 S1 vals2 bss2 hm2 hf2 hx1 => hK _ _ ?_) _
  rw [hd1]
  have hd' : (a.put (some d) v1).defers = [] := (Act.defers_put _ _ _).trans hd
  have hn' : (a.put (some d) v1).tmps.size = n := (Act.size_put _ _ _).trans hn
  have he2 : ∀ q, q < n → TmpOK C.P S1 w1 ⟨T.slots.set r (T.ep, .own e es), T.ep + 1⟩ vals2 ((a.put (some d) v1).tmps.getD q undef) (upd (upd env ty (.sl r T.ep 0 es.length)) d x1 q) := fun q hq => by
    rw [Act.getD_put]
    by_cases hqd : d = q
    · subst hqd
      rw [if_pos ⟨rfl, by rw [hn]; exact hq⟩]
      unfold upd
      rw [if_pos rfl]
      exact hx1
    · rw [if_neg (by rintro ⟨h, -⟩; injection h with h; exact hqd h)]
      show TmpOK _ _ _ _ _ _ (upd (upd env ty _) d x1 q)
      conv => rhs; unfold upd
      rw [if_neg (Ne.symm hqd)]
      exact TmpOK.follows hf2 (he1 q hq)
  have hu2 : TmpOK C.P S1 w1 ⟨T.slots.set r (T.ep, .own e es), T.ep + 1⟩ vals2 u (.sl r T.ep 0 es.length) := TmpOK.follows hf2 hu1
  refine wpList_plain hg2 fun K hK => ?_
  refine hj _ w1 S1 vals2 bss2 hm2 (St.ops (σ := ⟨upd (upd env ty (.sl r T.ep 0 es.length)) d x1, ⟨T.slots.set r (T.ep, .own e es), T.ep + 1⟩, n⟩) hn' he2 ho2) K (fun v2 w2 S2 vals3 bss3 hm3 hf3 hx2 => hK _ _ (h _ _ ?_)) _
  rw [hd2]
  have hu3 : TmpOK C.P S2 w2 T2 vals3 u (.sl r T.ep 0 es'.length) := by rw [hlen]; exact TmpOK.follows hf3 hu2
  obtain ⟨vals4, bss4, hm4, hf4⟩ := nm_close hm3 hT2 hu3
  rw [hT3] at hm4 hf4
  refine ⟨hd', hn', S2, vals4, bss4, hm4, fun q hq => ?_⟩
  show TmpOK _ _ _ _ _ ((a.put (some d) v1).tmps.getD q undef) (upd env d .any q)
  by_cases hqd : d = q
  · subst hqd
    unfold upd
    rw [if_pos rfl]
    exact TmpOK.any_
  · rw [Act.getD_put, if_neg (by rintro ⟨h, -⟩; injection h with h; exact hqd h)]
    unfold upd
    rw [if_neg (Ne.symm hqd)]
    exact TmpOK.follows hf4 (TmpOK.follows hf3 (TmpOK.follows hf2 (TmpOK.follows hf1 (he q hq))))
end
/-! ### A row of one cell an element, sorted by a function of the program -/
section
open Go.Sort
variable {α : Type} [Inhabited α] {enc : α → Value}
def rowE (enc : α → Value) (x : α) : List AV := [.v (enc x)]
theorem flat_rowE (l : List α) : (l.map (rowE enc)).flatten = l.map fun x => .v (enc x) := by
  induction l with
  | nil => rfl
  | cons x l ih => simp only [List.map_cons, List.flatten_cons, ih]; rfl
theorem holdsE {w : World} {g : Nat} {cur : Array Value} {e : TypeId} {ss : List α} (hb : w.heap[g]? = some (.cells cur e (0, 0))) (ht : cur.toList.take ss.length = ss.map enc) : Holds enc w g 0 ss.toArray := by
  intro j hj
  have hj' : j < ss.length := by simpa using hj
  refine ⟨?_, by simp [World.frozen?, hb]⟩
  have h1 : (cur.toList.take ss.length)[j]? = (ss.map enc)[j]? := by rw [ht]
  rw [List.getElem?_take_of_lt hj'] at h1
  simp only [World.cell?, hb, Nat.zero_add]
  simp only [Option.isSome_none, Bool.false_eq_true, if_false]
  rw [← Array.getElem?_toList, h1]
  simp [hj']
theorem heapE {w : World} {g n : Nat} {os : Array Obj} {cur : Array Value} {e : TypeId} {fr : Nat × Nat} (d : Array α) (hb : w.heap[g]? = some (.cells cur e fr)) :
    (grow (putRow enc (Sort.ahead w n) g 0 d) os).heap[g]? = some (.cells (putCells enc 0 d cur) e fr) := by
  have hg : g < w.heap.size := (Array.getElem?_eq_some_iff.1 hb).1
  rw [heap_grow_old _ _ (by simpa using hg)]
  simp [putRow, mapBlock, Sort.ahead, Array.getElem?_modify, hb, onCells]
theorem keptE {w : World} {g n : Nat} {os : Array Obj} (d : Array α) : Kept (fun k => k ≠ g) w (grow (putRow enc (Sort.ahead w n) g 0 d) os) := by
  refine ⟨rfl, rfl, rfl, by simp, fun k hk hne => ?_⟩
  rw [heap_grow_old _ _ (by simpa using hk)]
  have : g ≠ k := fun e => hne e.symm
  simp [putRow, mapBlock, Sort.ahead, Array.getElem?_modify, this]
theorem kept_grow {w : World} {os : Array Obj} : Kept (fun _ => True) w (grow w os) := ⟨rfl, rfl, rfl, by simp, fun k hk _ => heap_grow_old _ _ hk⟩
theorem takeE (cur : Array Value) (ts : List α) (h : ts.length ≤ cur.size) : (putCells enc 0 ts.toArray cur).toList.take ts.length = ts.map enc := by
  apply List.ext_getElem?
  intro j
  by_cases hj : j < ts.length
  · rw [List.getElem?_take_of_lt hj, Array.getElem?_toList]
    simp [putCells, hj, show j < cur.size by omega]
  · rw [List.getElem?_take_eq_none (by omega), List.getElem?_eq_none (by simp; omega)]
/-- A row of single cells: what lies there. -/
theorem repE_inv {P : Program} {S : Nat → Prop} {w : World} {bs : List Nat} {u : Value} {e : TypeId} {ds : List α} (h : Rep P S w bs u (.own e (ds.map (rowE enc)))) (hi : sizeIs P e 1) (hd : 0 < ds.length) :
    ∃ g cap cur, u = .slice (some ⟨g, 0, none⟩) ds.length cap ∧ w.heap[g]? = some (.cells cur e (0, 0)) ∧ ds.length ≤ cap ∧ cap ≤ maxLen ∧ cur.size = cap ∧ cur.toList.take ds.length = ds.map enc ∧ bs = [g] := by
  obtain ⟨us, sz, bss, rfl, hi', hsz, hown, hul, hbl, hc⟩ := h.own_inv
  obtain rfl := sizeIs.inj hi hi'
  rw [List.length_map] at hown
  rcases hown.2 with ⟨-, h0⟩ | ⟨g, cap, cur, rfl, -, hg, h1, h2, h3, h4⟩
  · omega
  · rw [Nat.mul_one] at h3 h4
    have hus : us = ds.map enc := by
      apply List.ext_getElem?
      intro j
      cases hj : us[j]? with
      | none => rw [List.getElem?_eq_none]; rw [List.length_map]; have := List.getElem?_eq_none_iff.1 hj; rw [hul, flat_rowE, List.length_map] at this; exact this
      | some x =>
        have hjl := (List.getElem?_eq_some_iff.1 hj).1
        rw [hul, flat_rowE, List.length_map] at hjl
        have h5 := hc j x (.v (enc ds[j])) (bss[j]'(by rw [hbl, hul, flat_rowE, List.length_map]; exact hjl)) hj (by rw [flat_rowE, List.getElem?_map, List.getElem?_eq_getElem hjl]; rfl) (List.getElem?_eq_getElem _)
        rw [List.getElem?_map, List.getElem?_eq_getElem hjl, h5.v_inv.1]
        rfl
    have hbs : bss.flatten = [] := by
      rw [List.flatten_eq_nil_iff]
      intro b hb
      obtain ⟨j, hj, rfl⟩ := List.getElem_of_mem hb
      have hjl : j < ds.length := by rw [hbl, hul, flat_rowE, List.length_map] at hj; exact hj
      have h5 := hc j (us[j]'(by rw [← hbl]; exact hj)) (.v (enc ds[j])) bss[j] (List.getElem?_eq_getElem _) (by rw [flat_rowE, List.getElem?_map, List.getElem?_eq_getElem hjl]; rfl) (List.getElem?_eq_getElem _)
      exact h5.v_inv.2.1
    exact ⟨g, cap, cur, rfl, hg, h1, h2, h3, by rw [h4, hus], by rw [hbs]; rfl⟩
theorem repE {P : Program} {S : Nat → Prop} {w : World} {e : TypeId} {ds : List α} {g cap : Nat} {cur : Array Value} (henc : ∀ x, (enc x).oneCell' = true) (hi : sizeIs P e 1) (hg : w.heap[g]? = some (.cells cur e (0, 0))) (h1 : ds.length ≤ cap) (h2 : cap ≤ maxLen) (h3 : cur.size = cap) (h4 : cur.toList.take ds.length = ds.map enc) :
    Rep P S w [g] (.slice (some ⟨g, 0, none⟩) ds.length cap) (.own e (ds.map (rowE enc))) := by
  have := Rep.own (P := P) (S := S) (w := w) (v := .slice (some ⟨g, 0, none⟩) ds.length cap) (e := e) (es := ds.map (rowE enc)) (us := ds.map enc) (sz := 1) (bss := List.replicate ds.length []) hi
    (fun x hx => by obtain ⟨p, _, rfl⟩ := List.mem_map.1 hx; rfl)
    ⟨by simp, .inr ⟨g, cap, cur, by rw [List.length_map], Nat.zero_le _, hg, by rw [List.length_map]; exact h1, h2, by rw [Nat.mul_one]; exact h3, by rw [Nat.mul_one, List.length_map]; exact h4⟩⟩
    (by rw [flat_rowE]; simp) (by simp)
    (fun i u x bs q1 q2 q3 => by
      rw [flat_rowE] at q2
      rw [List.getElem?_replicate] at q3
      rw [List.getElem?_map] at q1 q2
      cases hd : ds[i]? with
      | none => rw [hd] at q1; cases q1
      | some z =>
        rw [hd] at q1 q2
        injection q1 with q1; injection q2 with q2
        subst q1; subst q2
        split at q3
        · injection q3 with q3; subst q3; exact .v (henc z)
        · cases q3)
  simpa [Value.ownBlock] using this
def sortN (lt : α → α → Bool) (ds : List α) : List α := if ds.length ≤ 1 then ds else (Sort.insertionSort lt ds.toArray 0 ds.toArray.size).toList
end
section
open Go.Sort
variable {C : Cx} {o : Oper} {ev : Operand → AV} {T : Sl} {α : Type} [Inhabited α] {enc : α → Value}
/-- The library's stable sort of at most 20 elements of one cell each, in a slice that bears a name, by a closure. -/
theorem op_sortS {fS : FuncId} {p1 p2 : Operand} {ts : Array TypeId} {r k : Nat} {u : Value} {t e : TypeId} {g : FuncId} {caps : List AV} {ds : List α} {lt : α → α → Bool}
    (ho : o.op = .call { callee := .value (.func fS), args := #[p1, p2], argTypes := ts }) (h1 : ev p1 = .v (.iface t u)) (h2 : ev p2 = .clo g caps) (hf : Enters C.P fS) (hT : T.slots[r]? = some (k, .nm u e (ds.map (rowE enc)))) (hi : sizeIs C.P e 1) (henc : ∀ x, (enc x).oneCell' = true)
    (hsz : (Sort.insertionSort lt ds.toArray 0 ds.toArray.size).size = ds.toArray.size)
    (hS : ∀ (w : World) (blk c : Nat) (lb : Array Value), 2 ≤ ds.toArray.size → LessReads C.P g lb enc lt blk 0 ds.toArray.size w → Holds enc w blk 0 ds.toArray → blk < w.heap.size →
      Calls C.P fS #[.iface t (.slice (some ⟨blk, 0, none⟩) ds.toArray.size c), .func (.func g) #[] lb] w fun e w' => e = .returned (.tuple #[]) ∧ ∃ n os, w' = grow (putRow enc (Sort.ahead w n) blk 0 (Sort.insertionSort lt ds.toArray 0 ds.toArray.size)) os)
    (hE : ∀ (w : World) (p : Option Addr) (n c : Nat) (lb : Array Value), n ≤ 1 → Calls C.P fS #[.iface t (.slice p n c), .func (.func g) #[] lb] w fun e w' => e = .returned (.tuple #[]) ∧ ∃ os, w' = grow w os)
    (hL : ∀ (S : Nat → Prop) (w : World) (lb : List Value) (blk c : Nat), 2 ≤ ds.length → u = .slice (some ⟨blk, 0, none⟩) ds.length c → ¬ S blk → blk < w.heap.size → Holds enc w blk 0 ds.toArray → RL (Rep C.P S w []) lb caps → LessReads C.P g lb.toArray enc lt blk 0 ds.toArray.size w)
    {T' : Sl} (hT' : (⟨T.slots.set r (T.ep, .nm u e ((sortN lt ds).map (rowE enc))), T.ep + 1⟩ : Sl) = T') : OpJ C o ev T .any T' := by
  subst hT'
  intro a w S vals bss hm h K hK Q
  have q1 := h p1 (by simp [ho, Op.operands, Call.operands])
  have q2 := h p2 (by simp [ho, Op.operands, Call.operands])
  rw [h1] at q1
  rw [h2] at q2
  obtain ⟨us, hfv, hul, hur⟩ := (show Rep C.P S w [] _ (.clo g caps) from q2).clo_inv
  have hrun : (execOp a.eval o).run C.P w = .ok (.enter fS #[.iface t u, .func (.func g) #[] us.toArray]) w := by
    simp only [execOp, ho, resolve, Act.eval, Deferred.ofValue, Sem.run_bind, Sem.run_pure, Result.andThen_ok, invoke]
    have e1 : (#[p1, p2].map a.eval) = #[.iface t u, .func (.func g) #[] us.toArray] := by
      simp only [List.map_toArray, List.map_cons, List.map_nil]
      rw [q1.v, hfv]
    rw [show (#[p1, p2].map fun o => a.eval o) = (#[p1, p2].map a.eval) from rfl] at *
    simpa [e1] using hf _ w
  obtain ⟨v, bs, hv, hb, hrep⟩ := hm.slot hT
  have hnm : v = u ∧ Rep C.P S w bs u (.own e (ds.map (rowE enc))) := by
    cases hrep with
    | nm h => exact ⟨rfl, h⟩
  obtain ⟨rfl, hr1⟩ := hnm
  have hbn := hm.nodup r bs hb
  unfold Oper.wp
  rw [hrun, Oper.upon_enter]
  by_cases hd : ds.length ≤ 1
  · have hu : ∃ p n c, v = .slice p n c ∧ n ≤ 1 := by
      obtain ⟨us', sz, bss', -, -, -, hown, -⟩ := hr1.own_inv
      rw [List.length_map] at hown
      rcases hown.2 with ⟨hnil, h0⟩ | ⟨g', cap, cur, hc, -⟩
      · exact ⟨_, _, _, hnil, by omega⟩
      · exact ⟨_, _, _, hc, hd⟩
    obtain ⟨p, n, c, rfl, hn⟩ := hu
    refine (hE w p n c us.toArray hn).mono ?_
    rintro e' w' ⟨rfl, os, rfl⟩
    have hk : Kept (fun q => q ∉ bs) w (grow w os) := kept_grow.mono fun _ _ _ => trivial
    have hr2 : Rep C.P S (grow w os) bs (.slice p n c) (.own e (ds.map (rowE enc))) := hr1.kept kept_grow (fun _ _ _ => trivial) (fun _ _ => trivial)
    rw [show sortN lt ds = ds by unfold sortN; rw [if_pos hd]] at hK
    obtain ⟨hm1, hf1⟩ := hm.set (k' := T.ep) (ep' := T.ep + 1) hT hv hb hk (.nm hr2) hbn (fun b h => .inl h) (.inr ⟨rfl, rfl⟩)
    exact hK _ _ _ _ _ hm1 hf1 TmpOK.any_
  · obtain ⟨g0, cap, cur, rfl, hg, c1, c2, c3, c4, rfl⟩ := repE_inv hr1 hi (by omega)
    have hlt : g0 < w.heap.size := (Array.getElem?_eq_some_iff.1 hg).1
    have hH := holdsE (enc := enc) hg c4
    have hns : ¬ S g0 := hm.apart r [g0] hb g0 (by simp)
    have hLR := hL S w us g0 cap (by omega) rfl hns hlt hH ⟨hul, hur⟩
    have hcall := hS w g0 cap us.toArray (by simp; omega) hLR hH hlt
    rw [show ds.toArray.size = ds.length by simp] at hcall
    refine hcall.mono ?_
    rintro e' w' ⟨rfl, n, os, rfl⟩
    have hsn : sortN lt ds = (Sort.insertionSort lt ds.toArray 0 ds.length).toList := by unfold sortN; rw [if_neg hd]; simp
    have hln : (sortN lt ds).length = ds.length := by rw [hsn, Array.length_toList]; simpa using hsz
    have hk : Kept (fun q => q ∉ [g0]) w (grow (putRow enc (Sort.ahead w n) g0 0 (Sort.insertionSort lt ds.toArray 0 ds.length)) os) := (keptE _).mono fun k _ h => by simpa using h
    have hr2 : Rep C.P S (grow (putRow enc (Sort.ahead w n) g0 0 (Sort.insertionSort lt ds.toArray 0 ds.length)) os) [g0] (.slice (some ⟨g0, 0, none⟩) ds.length cap) (.own e ((sortN lt ds).map (rowE enc))) := by
      have ht := takeE (enc := enc) cur (sortN lt ds) (by rw [hln]; omega)
      have := repE (P := C.P) (S := S) (e := e) (ds := sortN lt ds) henc hi (heapE (enc := enc) (n := n) (os := os) (sortN lt ds).toArray hg) (by rw [hln]; exact c1) c2 (by simp [putCells, c3]) ht
      rw [hln] at this
      rw [show (sortN lt ds).toArray = Sort.insertionSort lt ds.toArray 0 ds.length by rw [hsn]] at this
      exact this
    obtain ⟨hm1, hf1⟩ := hm.set (k' := T.ep) (ep' := T.ep + 1) hT hv hb hk (.nm hr2) hbn (fun b h => .inl h) (.inr ⟨rfl, rfl⟩)
    exact hK _ _ _ _ _ hm1 hf1 TmpOK.any_
end
/-! ### Slots kept free for what a region makes in any order -/
section
variable {C : Cx} {σ : Sta}
theorem Gh.reserve : Gh C σ ⟨σ.env, ⟨σ.T.slots ++ [(σ.T.ep, .any)], σ.T.ep + 1⟩, σ.n⟩ := by
  intro a w ⟨hd, hn, S, vals, bss, hm, he⟩
  obtain ⟨hm1, hf1⟩ := hm.push (Kept.refl _ w) (x := .any) (v := .bool false) (bs := []) (.any rfl) (by simp) (by simp)
  exact ⟨hd, hn, S, _, _, hm1, fun t ht => TmpOK.follows hf1 (he t ht)⟩
end
section
variable {C : Cx} {o : Oper} {ev : Operand → AV} {T : Sl}
theorem mem_at (h0 : 0 < T.ep) {S : Nat → Prop} {vals : List Value} {bss : List (List Nat)} {w : World} {r k0 : Nat} {y : AV} (hT : T.slots[r]? = some (k0, .any)) (hm : Mem C (pushT T y) S vals bss w) :
    ∃ vals' bss', Mem C ⟨T.slots.set r (T.ep, y), T.ep + 1⟩ S vals' bss' w ∧ vals'[r]? = vals[T.slots.length]? ∧ ∀ q, q < T.slots.length → q ≠ r → vals'[q]? = vals[q]? := by
  have hrl : r < T.slots.length := (List.getElem?_eq_some_iff.1 hT).1
  have hL : (pushT T y).slots[T.slots.length]? = some (T.ep, y) := by simp [pushT]
  have hup : ∀ q, q < T.slots.length → (pushT T y).slots[q]? = T.slots[q]? := fun q hq => by
    show (T.slots ++ [_])[q]? = _
    rw [List.getElem?_append_left hq]
  have hnv : vals.length = T.slots.length + 1 := by rw [hm.nv]; simp [pushT]
  have hnb : bss.length = T.slots.length + 1 := by rw [hm.nb]; simp [pushT]
  obtain ⟨v, bs, hv, hb, hrep⟩ := hm.slot hL
  -- the place in the larger list
  let f : Nat → Nat := fun q => if q = r then T.slots.length else q
  have gv : ∀ q, ((vals.take T.slots.length).set r v)[q]? = if q < T.slots.length then vals[f q]? else none := fun q => by
    by_cases hq : q < T.slots.length
    · rw [if_pos hq, getElem?_set_ _ _ _ _ (by rw [List.length_take]; omega)]
      by_cases he : q = r
      · subst he; rw [if_pos rfl]; show _ = vals[f q]?; rw [show f q = T.slots.length from if_pos rfl, hv]
      · rw [if_neg (fun e => he e.symm), List.getElem?_take_of_lt hq, show f q = q from if_neg he]
    · rw [if_neg hq, List.getElem?_eq_none]; rw [List.length_set, List.length_take]; omega
  have gb : ∀ q, ((bss.take T.slots.length).set r bs)[q]? = if q < T.slots.length then bss[f q]? else none := fun q => by
    by_cases hq : q < T.slots.length
    · rw [if_pos hq, getElem?_set_ _ _ _ _ (by rw [List.length_take]; omega)]
      by_cases he : q = r
      · subst he; rw [if_pos rfl]; show _ = bss[f q]?; rw [show f q = T.slots.length from if_pos rfl, hb]
      · rw [if_neg (fun e => he e.symm), List.getElem?_take_of_lt hq, show f q = q from if_neg he]
    · rw [if_neg hq, List.getElem?_eq_none]; rw [List.length_set, List.length_take]; omega
  have gs : ∀ q, (T.slots.set r (T.ep, y))[q]? = if q < T.slots.length then (pushT T y).slots[f q]? else none := fun q => by
    by_cases hq : q < T.slots.length
    · rw [if_pos hq, getElem?_set_ _ _ _ _ hrl]
      by_cases he : q = r
      · subst he; rw [if_pos rfl]; rw [show f q = T.slots.length from if_pos rfl, hL]
      · rw [if_neg (fun e => he e.symm), show f q = q from if_neg he, hup q hq]
    · rw [if_neg hq, List.getElem?_eq_none]; rw [List.length_set]; omega
  have fi : ∀ q q', q < T.slots.length → q' < T.slots.length → q ≠ q' → f q ≠ f q' := fun q q' h1 h2 hne => by
    show (if q = r then _ else _) ≠ (if q' = r then _ else _)
    split <;> split <;> omega
  have un : ∀ {β : Type} {l : Option β} {q : Nat} {x : β}, (if q < T.slots.length then l else none) = some x → q < T.slots.length ∧ l = some x := fun h => by
    split at h
    · exact ⟨by assumption, h⟩
    · cases h
  refine ⟨(vals.take T.slots.length).set r v, (bss.take T.slots.length).set r bs, ⟨hm.kept, hm.s0, hm.sub, hm.lt, by rw [List.length_set, List.length_set, List.length_take]; omega, by rw [List.length_set, List.length_set, List.length_take]; omega, ?_, ?_, ?_, ?_, ?_, ?_, ?_, by show 0 < T.ep + 1; omega⟩, ?_, ?_⟩
  · intro q k x u b h1 h2 h3
    rw [gs] at h1; rw [gv] at h2; rw [gb] at h3
    exact hm.rep (f q) k x u b (un h1).2 (un h2).2 (un h3).2
  · intro q b h
    rw [gb] at h
    exact hm.nodup _ b (un h).2
  · intro q q' b b' hne h1 h2
    rw [gb] at h1 h2
    exact hm.disj _ _ b b' (fi q q' (un h1).1 (un h2).1 hne) (un h1).2 (un h2).2
  · intro q b h
    rw [gb] at h
    exact hm.apart _ b (un h).2
  · intro q b h
    rw [gb] at h
    exact hm.mine _ b (un h).2
  · intro q x hq h
    rw [gs] at h
    obtain ⟨hql, h⟩ := un h
    rw [gv, if_pos hql]
    by_cases he : q = r
    · subst he
      rw [show f q = T.slots.length from if_pos rfl, hL] at h
      injection h with h
      injection h with h
      omega
    · rw [show f q = q from if_neg he] at h ⊢
      exact hm.root q x hq h
  · intro q k x h
    rw [gs] at h
    exact hm.ver (f q) k x (un h).2
  · rw [gv, if_pos hrl]; show vals[f r]? = _; rw [show f r = T.slots.length from if_pos rfl]
  · intro q hq hne
    rw [gv, if_pos hq, show f q = q from if_neg hne]
theorem follows_at {S S' : Nat → Prop} {vals vals1 vals' : List Value} {w w' : World} {r k0 : Nat} {y : AV} (hT : T.slots[r]? = some (k0, .any)) (hf : Follows C.P S w T vals S' w' (pushT T y) vals1) (hl : vals.length = T.slots.length)
    (hq : ∀ q, q < T.slots.length → q ≠ r → vals'[q]? = vals1[q]?) : Follows C.P S w T vals S' w' ⟨T.slots.set r (T.ep, y), T.ep + 1⟩ vals' := by
  have hrl : r < T.slots.length := (List.getElem?_eq_some_iff.1 hT).1
  have key : ∀ {q k : Nat} {x : AV}, k < T.ep → (T.slots.set r (T.ep, y))[q]? = some (k, x) → q < T.slots.length ∧ q ≠ r ∧ (pushT T y).slots[q]? = some (k, x) := fun {q k x} hk h => by
    have hql : q < T.slots.length := by have := (List.getElem?_eq_some_iff.1 h).1; rwa [List.length_set] at this
    rw [getElem?_set_ _ _ _ _ hrl] at h
    by_cases he : r = q
    · rw [if_pos he] at h
      injection h with h
      injection h with h
      omega
    · rw [if_neg he] at h
      refine ⟨hql, fun e => he e.symm, ?_⟩
      show (T.slots ++ [_])[q]? = _
      rw [List.getElem?_append_left hql]
      exact h
  intro u x hx
  have hx' := hf u x hx
  cases x with
  | sl q k off len => exact ⟨Nat.lt_succ_of_lt hx.1, hx.2.1, fun e es v sz q1 q2 q3 => by
      obtain ⟨a1, a2, a3⟩ := key hx.1 q1
      rw [hq q a1 a2] at q2
      exact hx'.2.2 e es v sz a3 q2 q3⟩
  | ptr q k i j => exact ⟨Nat.lt_succ_of_lt hx.1, hx.2.1, fun e es v sz q1 q2 q3 => by
      obtain ⟨a1, a2, a3⟩ := key hx.1 q1
      rw [hq q a1 a2] at q2
      exact hx'.2.2 e es v sz a3 q2 q3⟩
  | mp q k => exact ⟨Nat.lt_succ_of_lt hx.1, hx.2.1, fun b ks v q1 q2 => by
      obtain ⟨a1, a2, a3⟩ := key hx.1 q1
      rw [hq q a1 a2] at q2
      exact hx'.2.2 b ks v a3 q2⟩
  | _ => exact hx'
theorem OpJ.at {e : TypeId} {es : List (List AV)} {len k0 : Nat} (r : Nat) (hT : T.slots[r]? = some (k0, .any)) (h : OpJ C o ev T (.sl T.slots.length T.ep 0 len) (pushT T (.own e es))) {T' : Sl} (hT' : (⟨T.slots.set r (T.ep, .own e es), T.ep + 1⟩ : Sl) = T') : OpJ C o ev T (.sl r T.ep 0 len) T' := by
  subst hT'
  intro a w S vals bss hm0 ho K hK Q
  have hrl : r < T.slots.length := (List.getElem?_eq_some_iff.1 hT).1
  refine h a w S vals bss hm0 ho K (fun v w' S' vals' bss' hm hf hv => ?_) Q
  obtain ⟨vals2, bss2, hm2, hv1, hv2⟩ := mem_at hm0.pos hT hm
  refine hK v w' S' vals2 bss2 hm2 (follows_at hT hf hm0.nv hv2) ⟨Nat.lt_succ_self _, hv.2.1, fun e2 es2 v2 sz2 q1 q2 q3 => ?_⟩
  rw [getElem?_set_ _ _ _ _ hrl, if_pos rfl] at q1
  injection q1 with q1
  injection q1 with _ q1
  rw [hv1] at q2
  exact hv.2.2 e2 es2 v2 sz2 (by rw [← q1]; simp [pushT]) q2 q3
theorem OpJ.atP {e : TypeId} {es : List (List AV)} {k0 : Nat} (r : Nat) (hT : T.slots[r]? = some (k0, .any)) (h : OpJ C o ev T (.ptr T.slots.length T.ep 0 0) (pushT T (.own e es))) {T' : Sl} (hT' : (⟨T.slots.set r (T.ep, .own e es), T.ep + 1⟩ : Sl) = T') : OpJ C o ev T (.ptr r T.ep 0 0) T' := by
  subst hT'
  intro a w S vals bss hm0 ho K hK Q
  have hrl : r < T.slots.length := (List.getElem?_eq_some_iff.1 hT).1
  refine h a w S vals bss hm0 ho K (fun v w' S' vals' bss' hm hf hv => ?_) Q
  obtain ⟨vals2, bss2, hm2, hv1, hv2⟩ := mem_at hm0.pos hT hm
  refine hK v w' S' vals2 bss2 hm2 (follows_at hT hf hm0.nv hv2) ⟨Nat.lt_succ_self _, hv.2.1, fun e2 es2 v2 sz2 q1 q2 q3 => ?_⟩
  rw [getElem?_set_ _ _ _ _ hrl, if_pos rfl] at q1
  injection q1 with q1
  injection q1 with _ q1
  rw [hv1] at q2
  exact hv.2.2 e2 es2 v2 sz2 (by rw [← q1]; simp [pushT]) q2 q3
theorem op_mkiface {t : TypeId} {y : Operand} {u : Value} (ho : o.op = .makeInterface t y) (hy : ev y = .v u) (hc : C.P.concrete t = true) : OpP C o ev T (.v (.iface t u)) := by
  intro a w S vals bss hm h
  have h1 := h y (by simp [ho, Op.operands])
  rw [hy] at h1
  exact ⟨_, fun w => by simp [execOp, ho, h1.v, run_makeInterface w t u hc], TmpOK.v_ rfl⟩
end
section
variable {C : Cx} {Q : Exit → Sta → Prop} {ops : Array Oper} {Ok : Sl → Prop} {fuel : Nat} {listed : Array Bool} {env : Nat → AV} {T : Sl} {n : Nat}
/-- Three operations may come next. -/
theorem adJ3o (i1 i2 i3 : Nat) {o1 o2 o3 : Oper} {x1 x2 x3 : AV} {T1 T2 T3 : Sl} (h1 : ops.toList[i1]? = some o1) (h2 : ops.toList[i2]? = some o2) (h3 : ops.toList[i3]? = some o3) (hj1 : OpJ C o1 (evA env) T x1 T1) (hj2 : OpJ C o2 (evA env) T x2 T2) (hj3 : OpJ C o3 (evA env) T x3 T3)
    (hr : Region.ready .any ops listed = [i1, i2, i3]) (hT1 : Ok T1) (hT2 : Ok T2) (hT3 : Ok T3)
    (k1 : AD C ops Q Ok fuel (listed.setIfInBounds i1 true) ⟨putE env o1.dst x1, T1, n⟩) (k2 : AD C ops Q Ok fuel (listed.setIfInBounds i2 true) ⟨putE env o2.dst x2, T2, n⟩) (k3 : AD C ops Q Ok fuel (listed.setIfInBounds i3 true) ⟨putE env o3.dst x3, T3, n⟩)
    (hg1 : o1.guard = none := by rfl) (hg2 : o2.guard = none := by rfl) (hg3 : o3.guard = none := by rfl) (ho1 : opsOk o1 n = true := by rfl) (ho2 : opsOk o2 n = true := by rfl) (ho3 : opsOk o3 n = true := by rfl) : AD C ops Q Ok (fuel + 1) listed ⟨env, T, n⟩ := by
  refine ⟨fun h => (by rw [h] at hr; cases hr), fun j hj => ?_⟩
  rw [hr] at hj
  simp only [List.mem_cons, List.not_mem_nil, or_false] at hj
  rcases hj with rfl | rfl | rfl
  · exact ⟨o1, x1, T1, atL h1, hg1, ho1, hj1, .inl hT1, k1⟩
  · exact ⟨o2, x2, T2, atL h2, hg2, ho2, hj2, .inl hT2, k2⟩
  · exact ⟨o3, x3, T3, atL h3, hg3, ho3, hj3, .inl hT3, k3⟩
end
end Go.Proofs.Ytjgbbffcjbmjmaa
