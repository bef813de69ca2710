import Derived.Test.YtngfknoddphhaaaAb10
namespace Go.Proofs.Ytngfknoddphhaaa
open Go.RowKit
set_option linter.unusedSimpArgs false
set_option linter.unusedVariables false

section
variable {C : Cx} {o : Oper} {ev : Operand → AV} {T : Sl}
theorem rep_nil {P : Program} {S : Nat → Prop} {w : World} {e : TypeId} {sz : Nat} (hi : sizeIs P e sz) : Rep P S w [] (.slice none 0 0) (.own e []) := by
  have := Rep.own (P := P) (S := S) (w := w) (v := .slice none 0 0) (e := e) (es := []) (us := []) (sz := sz) (bss := []) hi (by simp) (World.ownsRow_nil _ _ _ _) rfl rfl (by simp)
  exact this
/-- A slice of a new slot. -/
theorem push_sl {S S' : Nat → Prop} {vals : List Value} {w' : World} {v : Value} {bs : List Nat} {e : TypeId} {es : List (List AV)} (hnv : vals.length = T.slots.length) (hrep : Rep C.P S' w' bs v (.own e es)) : TmpOK C.P S w' (pushT T (.own e es)) (vals ++ [v]) v (.sl T.slots.length T.ep 0 es.length) := by
  refine ⟨by simp [pushT], hrep.one, fun e2 es2 v2 sz2 q1 q2 q3 => ?_⟩
  have q1 : (T.slots ++ [_])[T.slots.length]? = _ := q1
  rw [getElem?_snoc, if_neg (Nat.lt_irrefl _), if_pos rfl] at q1
  rw [getElem?_snoc, hnv, if_neg (Nat.lt_irrefl _), if_pos rfl] at q2
  injection q1 with q1; injection q1 with _ q1; injection q1 with q1 q4
  injection q2 with q2
  subst q1; subst q2; subst q4
  obtain ⟨us1, sz1, bss1, -, hi1, hsz1, hown1, -⟩ := hrep.own_inv
  refine ⟨by omega, ?_⟩
  rcases hown1.2 with ⟨hnil, h0'⟩ | ⟨g, cap', cur, hcap, -, -, p1, p2, -⟩
  · exact ⟨none, 0, 0, hnil, by omega, Nat.le_refl _, by unfold maxLen; omega, .inl ⟨rfl, by rw [hnil, h0']⟩⟩
  · exact ⟨_, _, _, hcap, by omega, p1, p2, .inl ⟨rfl, hcap⟩⟩
theorem op_app_nil {t e : TypeId} {y s : Operand} {z : Value} {sz b : Nat} {rows : List (List AV)} {sv : AV} (ho : o.op = .call { callee := .builtin .append, args := #[y, s], argTypes := #[t, t] }) (hy : ev y = .v (.slice none 0 0)) (hs : ev s = sv) (hsrc : Src T sv rows)
    (ht : C.P.underlying t = some (.slice e)) (hz : zeroIs C.P e z sz b) (h0 : 0 < sz) (hsz : ∀ x ∈ rows, x.length = sz) (hb : rows.length * b ≤ 140737488355328) (hb0 : 0 < b) {n : Nat} (hn : rows.length = n) :
    OpJ C o ev T (.sl T.slots.length T.ep 0 n) (pushT T (.own e rows)) := by
  intro a w S vals bss hm h K hK Q
  have h1 := h y (by simp [ho, Op.operands, Call.operands])
  have h2 := h s (by simp [ho, Op.operands, Call.operands])
  rw [hy] at h1
  rw [hs] at h2
  obtain ⟨A, c, us, sz', e1, h3, h4, h5, h6, h7⟩ := src_cells hm hsrc h2
  have hmax : rows.length ≤ maxLen := by
    have := Nat.le_mul_of_pos_right rows.length hb0
    unfold maxLen
    omega
  obtain ⟨v', w', bs', hrun, hrep', hnd, hsub, hk⟩ := run_app (P := C.P) (S := S) (w := w) (ty := o.type) ht hz h0 (rep_nil hz.size) (by simp) (by simp) hsz (A := A) (c := c) h6 h7 (by simpa using hb) (by simpa using hmax)
  rw [List.nil_append] at hrep'
  have hk' : Kept (fun _ => True) w w' := hk.mono fun _ _ _ => by simp
  obtain ⟨hm', hf⟩ := hm.push hk' hrep' hnd fun q hq => (hsub q hq).resolve_left (by simp)
  unfold Oper.wp execOp
  simp only [ho, resolve, invoke, builtin, Sem.run_bind, Sem.run_pure, Result.andThen_ok, List.map_toArray, List.map_cons, List.map_nil, h1.v, e1, hrun]
  subst hn
  exact hK v' _ _ _ _ hm' hf (push_sl hm.nv hrep')
theorem madeCells_rl {P : Program} {S : Nat → Prop} {w : World} {t : TypeId} {z : Value} {sz b : Nat} (hz : zeroIs P t z sz b) (n : Nat) : RL (Rep P S w []) (madeCells z.cells (n * sz)).toList (List.replicate n (z.cells.toList.map .v)).flatten := by
  have hl : (List.replicate n (z.cells.toList.map AV.v)).flatten.length = n * sz := by
    rw [flat_len (sz := sz)]
    · simp
    · intro e he; rw [List.eq_of_mem_replicate he]; simp [hz.2.1]
  refine ⟨by rw [hl]; simp [size_madeCells], fun i u x hu hx => ?_⟩
  have hi : i < n * sz := by rw [← hl]; exact (List.getElem?_eq_some_iff.1 hx).1
  have hsp : 0 < sz := by rcases Nat.eq_zero_or_pos sz with h | h <;> simp_all
  have hq : i / sz < n := by rw [Nat.div_lt_iff_lt_mul hsp]; exact hi
  have hmod := Nat.mod_lt i hsp
  have hx2 := flat_at (sz := sz) (es := List.replicate n (z.cells.toList.map AV.v)) (fun e he => by rw [List.eq_of_mem_replicate he]; simp [hz.2.1]) (i := i / sz) (row := z.cells.toList.map .v) (by simp [hq]) (j := i % sz) (x := .v z.cells[i % sz]!) (by
    rw [List.getElem?_map]
    have : i % sz < z.cells.toList.length := by simp [hz.2.1]; exact hmod
    rw [List.getElem?_eq_getElem this]
    simp only [Option.map_some]
    rw [getElem!_pos z.cells _ (by rw [hz.2.1]; exact hmod)]
    simp)
  rw [Nat.div_add_mod'] at hx2
  rw [hx2] at hx
  injection hx with hx
  subst hx
  simp only [madeCells, Array.toList_map, List.getElem?_map] at hu
  have hlt2 : i < (Array.range (n * sz)).toList.length := by simpa using hi
  rw [List.getElem?_eq_getElem hlt2] at hu
  simp only [Option.map_some, Option.some.injEq] at hu
  have e1 : (Array.range (n * sz)).toList[i] = i := by simp
  rw [e1, hz.2.1] at hu
  rw [← hu]
  refine .v ?_
  rw [getElem!_pos z.cells _ (by rw [hz.2.1]; exact hmod)]
  exact Array.all_eq_true_iff_forall_mem.1 hz.2.2 _ (Array.getElem_mem _)
theorem op_make {t e : TypeId} {y q : Operand} {z : Value} {sz b : Nat} {kl kc : IntKind} {n c : Nat} {nl nc : Int} (ho : o.op = .makeSlice t y q) (hy : ev y = .v (.int kl nl)) (hq : ev q = .v (.int kc nc)) (hnl : nl = (n : Int)) (hnc : nc = (c : Int)) (hle : n ≤ c) (ht : C.P.underlying t = some (.slice e)) (hz : zeroIs C.P e z sz b) (hb : b * c ≤ 140737488355328) (hb0 : 0 < b)
    {row : List AV} (hrow : z.cells.toList.map .v = row) : OpJ C o ev T (.sl T.slots.length T.ep 0 n) (pushT T (.own e (List.replicate n row))) := by
  intro a w S vals bss hm h K hK Q
  have h1 := h y (by simp [ho, Op.operands])
  have h2 := h q (by simp [ho, Op.operands])
  rw [hy] at h1
  rw [hq] at h2
  subst hnl; subst hnc; subst hrow
  have hcm : c ≤ maxLen := by
    have := Nat.le_mul_of_pos_left c hb0
    unfold maxLen
    omega
  obtain ⟨hzi, hz2, hz3⟩ := id hz
  obtain ⟨i, hii, hz0, hz1, hz4⟩ := info_parts hzi
  have hbc : (i.bytes : Int) * (c : Int) ≤ 281474976710656 := by
    rw [hz4, ← Int.natCast_mul]; omega
  have hrun := run_make (P := C.P) w t e i z ht hii hz0 kl kc (n : Int) (c : Int) (by omega) (by omega) hbc (by unfold maxLen at hcm; omega)
  simp only [Int.toNat_natCast, hz1] at hrun
  have hrl := madeCells_rl (P := C.P) (S := S) (w := w) hz c
  have hg : (w.alloc (.cells (madeCells z.cells (c * sz)) e)).heap[w.heap.size]? = some (.cells (madeCells z.cells (c * sz)) e (0, 0)) := heap_alloc_new w _
  have hown : (w.alloc (.cells (madeCells z.cells (c * sz)) e)).ownsRow 0 e sz (.slice (some ⟨w.heap.size, 0, none⟩) n c) n ((madeCells z.cells (c * sz)).toList.take (n * sz)) :=
    ⟨by rw [List.length_take, Array.length_toList, size_madeCells]; exact Nat.min_eq_left (Nat.mul_le_mul_right _ hle), .inr ⟨_, c, _, rfl, Nat.zero_le _, hg, hle, hcm, size_madeCells _ _, rfl⟩⟩
  have hk : Kept (fun _ => True) w (w.alloc (.cells (madeCells z.cells (c * sz)) e)) := (Kept.refl _ _).alloc _
  have hrowl : ∀ x ∈ List.replicate n (z.cells.toList.map AV.v), x.length = sz := fun x hx => by rw [List.eq_of_mem_replicate hx]; simp [hz.2.1]
  have hpart : RL (Rep C.P S w []) ((madeCells z.cells (c * sz)).toList.take (n * sz)) (List.replicate n (z.cells.toList.map AV.v)).flatten := by
    have := hrl.part 0 (n * sz)
    rw [List.drop_zero, List.drop_zero] at this
    have e1 : (List.replicate c (z.cells.toList.map AV.v)).flatten.take (n * sz) = (List.replicate n (z.cells.toList.map AV.v)).flatten := by
      have := flat_cut (sz := sz) (es := List.replicate c (z.cells.toList.map AV.v)) (fun x hx => by rw [List.eq_of_mem_replicate hx]; simp [hz.2.1]) 0 n
      rw [Nat.zero_mul, List.drop_zero, List.drop_zero] at this
      rw [← this, List.take_replicate, Nat.min_eq_left hle]
    rw [e1] at this
    exact this
  have hrep : Rep C.P S (w.alloc (.cells (madeCells z.cells (c * sz)) e)) [w.heap.size] (.slice (some ⟨w.heap.size, 0, none⟩) n c) (.own e (List.replicate n (z.cells.toList.map AV.v))) := by
    have := Rep.own (P := C.P) (S := S) (es := List.replicate n (z.cells.toList.map AV.v)) (bss := List.replicate (n * sz) []) hz.size hrowl (by rw [List.length_replicate]; exact hown) hpart.1 (by rw [hpart.1, flat_len hrowl]; simp) fun i u x bs hu hx hb => by
      have : bs = [] := by
        rw [List.getElem?_replicate] at hb
        split at hb <;> simp_all
      subst this
      exact (hpart.2 i u x hu hx).kept hk (fun _ _ _ => trivial) (by simp)
    rw [List.flatten_replicate_nil] at this
    exact this
  obtain ⟨hm', hf⟩ := hm.push hk hrep (by simp) (by simp)
  unfold Oper.wp execOp
  simp only [ho, h1.v, h2.v, Sem.run_bind, hrun, Result.andThen_ok, Sem.run_pure]
  have := push_sl (C := C) (S := S) (T := T) hm.nv hrep
  rw [List.length_replicate] at this
  exact hK _ _ _ _ _ hm' hf this

/-! ### Slices of slices -/
def bndIs (ev : Operand → AV) (q : Option Operand) (d n : Nat) : Prop := match q with | none => n = d | some y => ∃ kk, ev y = .v (.int kk (n : Int))
theorem run_bounds {P : Program} {S : Nat → Prop} {w : World} {vals : List Value} {a : Act} {lo hi : Option Operand} {l hh len cap : Nat} (b : Bool) (hl : bndIs ev lo 0 l) (hhi : bndIs ev hi len hh) (h1 : l ≤ hh) (h2 : hh ≤ cap) (ho : ∀ y, lo = some y ∨ hi = some y → TmpOK P S w T vals (a.eval y) (ev y)) (w' : World) :
    (Instr.sliceBounds b len cap (lo.map a.eval) (hi.map a.eval) none).run P w' = .ok (l, hh, cap) w' := by
  have key : ∀ (q : Option Operand) (d n : Nat), bndIs ev q d n → (∀ y, q = some y → TmpOK P S w T vals (a.eval y) (ev y)) → q.map a.eval = none ∧ n = d ∨ ∃ kk, q.map a.eval = some (.int kk (n : Int)) := by
    intro q d n hq hy
    cases q with
    | none => exact .inl ⟨rfl, hq⟩
    | some y =>
      obtain ⟨kk, hk⟩ := hq
      have := hy y rfl
      rw [hk] at this
      exact .inr ⟨kk, by rw [Option.map_some, this.v]⟩
  have hll : (l : Int) ≤ (hh : Int) := by omega
  have hhc : (hh : Int) ≤ (cap : Int) := by omega
  rcases key lo 0 l hl (fun y hy => ho y (.inl hy)) with ⟨e1, e2⟩ | ⟨k1, e1⟩ <;> rcases key hi len hh hhi (fun y hy => ho y (.inr hy)) with ⟨e3, e4⟩ | ⟨k2, e3⟩ <;> rw [e1, e3] <;> (try subst e2) <;> (try subst e4) <;> simp [Instr.sliceBounds, Instr.sliceBound, asIntOf, h1, h2, Nat.not_lt.2 h1, Nat.not_lt.2 h2]
theorem run_slice_ {P : Program} {t e : TypeId} {sz l hh len cap : Nat} {A : Option Addr} {lo hi mx : Option Value} {m : Nat} (ht : P.underlying t = some (.slice e)) (hs : sizeIs P e sz) (w : World) (hb : (Instr.sliceBounds true len cap lo hi mx).run P w = .ok (l, hh, m) w) :
    (Instr.sliceAt t (.slice A len cap) lo hi mx).run P w = .ok (.slice (if m = l then A else A.map (·.add (l * sz))) (hh - l) (m - l)) w := by
  have hee := elem_eq ht
  rw [run_sliceAt_slice w t _ _ _ _ (by rw [hee]; exact ht)]
  simp [Instr.slice, run_underlying ht, hb, run_sizeOf hs]
theorem op_slice_ro {t e : TypeId} {y : Operand} {lo hi : Option Operand} {es : List (List AV)} {sz : Nat} (l hh : Nat) (ho : o.op = .slice t y lo hi none) (hy : ev y = .ro es ∨ ev y = .rof es) (hl : bndIs ev lo 0 l) (hhi : bndIs ev hi es.length hh) (h1 : l ≤ hh) (h2 : hh ≤ es.length) (ht : C.P.underlying t = some (.slice e)) (hs : sizeIs C.P e sz) (hsz : ∀ x ∈ es, x.length = sz)
    {es' : List (List AV)} (he : (es.drop l).take (hh - l) = es') : OpP C o ev T (.ro es') := by
  intro a w S vals bss hm h
  have h3 := h y (by simp [ho, Op.operands])
  have h4 : Rep C.P S w [] (a.eval y) (.ro es) := by
    rcases hy with hy | hy
    · rw [hy] at h3; exact h3
    · rw [hy] at h3; exact Rep.ro_of_rof h3
  obtain ⟨-, A, c, sz', us, e1, g1, g2, g3, g4, g5, g6⟩ := h4.ro_inv
  have hb := fun w' => run_bounds (P := C.P) (T := T) (a := a) (ev := ev) (lo := lo) (hi := hi) true hl hhi h1 (Nat.le_trans h2 g1) (fun y hy => h y (by rcases hy with rfl | rfl <;> simp [ho, Op.operands])) w'
  refine ⟨_, fun w' => by simp only [execOp, ho, e1, Sem.run_bind, Option.map_none, run_slice_ ht hs w' (hb w'), Result.andThen_ok, Sem.run_pure]; rfl, ?_⟩
  subst he
  have hlen : ((es.drop l).take (hh - l)).length = hh - l := by rw [List.length_take, List.length_drop]; omega
  have hfl := flat_len hsz
  have hle : hh * sz ≤ es.length * sz := Nat.mul_le_mul_right _ h2
  have hsub : (hh - l) * sz = hh * sz - l * sz := Nat.sub_mul _ _ _
  have hllh : l * sz ≤ hh * sz := Nat.mul_le_mul_right _ h1
  suffices hfin : Rep C.P S w [] (.slice (if c = l then A else A.map (·.add (l * sz))) ((es.drop l).take (hh - l)).length (c - l)) (.ro ((es.drop l).take (hh - l))) by rw [hlen] at hfin; exact hfin
  refine Rep.ro (c := c - l) (sz := sz) (us := (us.drop (l * sz)).take ((hh - l) * sz)) (by rw [hlen]; omega) (by omega) (fun x hx => hsz x (List.mem_of_mem_drop (List.mem_of_mem_take hx))) (fun hn => ?_) ?_ ?_
  · have hpos : 0 < us.length := by rw [List.length_take, List.length_drop] at hn; omega
    obtain ⟨g, oo, rfl, hS, hc⟩ := g4 hpos
    have hlh : l < hh := by
      rcases Nat.lt_or_ge l hh with h | h
      · exact h
      · have : hh - l = 0 := by omega
        rw [this] at hn; simp at hn
    refine ⟨g, oo + l * sz, ?_, hS, fun j u hu => ?_⟩
    · rw [if_neg (by omega), Option.map_some, add_off]
    · rw [List.getElem?_take] at hu
      split at hu
      · rw [List.getElem?_drop] at hu
        rw [Nat.add_assoc]; exact hc _ u hu
      · cases hu
  · rw [flat_cut hsz, List.length_take, List.length_take, List.length_drop, List.length_drop, g5]
  · intro i u x hu hx
    rw [flat_cut hsz, List.getElem?_take] at hx
    rw [List.getElem?_take] at hu
    split at hu
    · rename_i hlt
      rw [if_pos hlt, List.getElem?_drop] at hx
      rw [List.getElem?_drop] at hu
      exact g6 _ u x hu hx
    · cases hu
theorem op_slice_sl {t e : TypeId} {y : Operand} {lo hi : Option Operand} {es : List (List AV)} {r k off len : Nat} (l hh : Nat) (ho : o.op = .slice t y lo hi none) (hy : ev y = .sl r k off len) (hT : T.slots[r]? = some (k, .own e es)) (hl : bndIs ev lo 0 l) (hhi : bndIs ev hi len hh) (h1 : l ≤ hh) (h2 : hh ≤ len) (ht : C.P.underlying t = some (.slice e))
    {off' len' : Nat} (he : off + l = off') (he' : hh - l = len') : OpP C o ev T (.sl r k off' len') := by
  intro a w S vals bss hm h
  have h3 := h y (by simp [ho, Op.operands])
  rw [hy] at h3
  obtain ⟨v, bs, hv, hbb, hrep⟩ := hm.slot hT
  obtain ⟨us0, sz, bss0, -, hs, hsz0, hown, -⟩ := hrep.own_inv
  obtain ⟨hol, A, nn, cap, hve, g3, g4, g5, g6⟩ := h3.2.2 e es v sz hT hv hs
  obtain ⟨A', e1, hA'⟩ : ∃ A', a.eval y = .slice A' len (cap - off) ∧ ((off = 0 ∧ A' = A) ∨ (0 < off ∧ (0 < len → ∃ g, A = some ⟨g, 0, none⟩ ∧ A' = some ⟨g, off * sz, none⟩))) := by
    rcases g6 with ⟨q1, q2⟩ | ⟨A', q1, q2, q3⟩
    · exact ⟨A, by rw [q2, q1, Nat.sub_zero], .inl ⟨q1, rfl⟩⟩
    · exact ⟨A', q2, .inr ⟨q1, q3⟩⟩
  have hb := fun w' => run_bounds (P := C.P) (T := T) (a := a) (ev := ev) (lo := lo) (hi := hi) true hl hhi h1 (show hh ≤ cap - off by omega) (fun y hy => h y (by rcases hy with rfl | rfl <;> simp [ho, Op.operands])) w'
  refine ⟨_, fun w' => by simp only [execOp, ho, e1, Sem.run_bind, Option.map_none, run_slice_ ht hs w' (hb w'), Result.andThen_ok, Sem.run_pure]; rfl, ⟨h3.1, rfl, ?_⟩⟩
  intro e2 es2 v2 sz2 q1 q2 q3
  rw [hT] at q1
  injection q1 with q1; injection q1 with _ q1; injection q1 with q1 q4
  subst q1; subst q4
  rw [hv] at q2
  injection q2 with q2
  subst q2
  have := hs.inj q3
  subst this
  subst he; subst he'
  refine ⟨by omega, A, nn, cap, hve, by omega, g4, g5, ?_⟩
  rcases hA' with ⟨h0, rfl⟩ | ⟨h0, hg⟩
  · subst h0
    rcases Nat.eq_zero_or_pos l with hl0 | hl0
    · subst hl0
      left
      refine ⟨rfl, ?_⟩
      rw [Nat.zero_mul, Nat.sub_zero, Nat.sub_zero]
      have : A'.map (·.add 0) = A' := by cases A' <;> simp [Addr.add]
      rw [this]
      split <;> rfl
    · right
      refine ⟨_, by omega, by rw [Nat.sub_zero, Nat.zero_add], fun hn => ?_⟩
      rcases hown.2 with ⟨hnil, h0'⟩ | ⟨g, cap', cur, hcap, -⟩
      · omega
      · rw [hve] at hcap
        injection hcap with p1 p2 p3
        subst p1
        exact ⟨g, rfl, by rw [if_neg (by omega), Option.map_some, add_off]; simp⟩
  · right
    refine ⟨_, by omega, by rw [Nat.sub_sub], fun hn => ?_⟩
    obtain ⟨g, p1, p2⟩ := hg (by omega)
    exact ⟨g, p1, by rw [if_neg (by omega), p2, Option.map_some, add_off, Nat.add_mul]⟩
theorem op_slice_str {t : TypeId} {y : Operand} {lo hi : Option Operand} {s : ByteArray} (l hh : Nat) (ho : o.op = .slice t y lo hi none) (hy : ev y = .v (.string s)) (hl : bndIs ev lo 0 l) (hhi : bndIs ev hi s.size hh) (h1 : l ≤ hh) (h2 : hh ≤ s.size) (ht : C.P.underlying t = some .string) : OpP C o ev T (.v (.string (s.extract l hh))) := by
  intro a w S vals bss hm h
  have h3 := h y (by simp [ho, Op.operands])
  rw [hy] at h3
  have hb := fun w' => run_bounds (P := C.P) (T := T) (a := a) (ev := ev) (lo := lo) (hi := hi) false hl hhi h1 h2 (fun y hy => h y (by rcases hy with rfl | rfl <;> simp [ho, Op.operands])) w'
  refine ⟨_, fun w' => ?_, TmpOK.v_ rfl⟩
  simp only [execOp, ho, h3.v, Sem.run_bind, Option.map_none]
  rw [run_sliceAt_string w' t _ _ _ _ ht]
  simp [Instr.slice, run_underlying ht, hb]
end
end Go.Proofs.Ytngfknoddphhaaa
