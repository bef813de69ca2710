import Derived.Test.YtfmnaigedgmhoaaGreatDoorXbc
import Derived.Lib.AppendStr
import Derived.Laws.Concat
import Derived.Laws.BitsAllLaws
namespace Go.Proofs.YtfmnaigedgmhoaaGreatDoor
open Go.RowKit
set_option linter.unusedSimpArgs false
set_option linter.unusedVariables false
theorem op_buildArr {C : Cx} {o : Oper} {ev : Operand → AV} {T : Sl} {t e : TypeId} {m n sz b : Nat} {z : Value} {ps : Array (Nat × Operand)} (ho : o.op = .build t ps) (rows : List (Nat × List AV)) (ht : C.P.underlying t = some (.array m e)) (hs : sizeIs C.P e sz) (hz : zeroIs C.P t z n b)
    (hp : ps.toList.map (fun p => (p.1, rowR (ev p.2))) = rows.map (fun p => (p.1, some p.2))) (hr : rows.all (fun p => p.2.length == sz && p.1 * sz + sz ≤ n) = true) {xs : List AV} (hx : rows.foldl (fun cs p => splice cs (p.1 * sz) p.2) (z.cells.toList.map .v) = xs) :
    OpP C o ev T (.agg xs) := by
  intro a w S vals bss hm h
  have hrl : RL (fun (u : Nat × Value) (x : Nat × List AV) => u.1 = x.1 ∧ RL (RefOK C.P S w T vals) u.2.cells.toList x.2) (evP a ps).toList rows := by
    refine ⟨by have := congrArg List.length hp; simpa [evP] using this, fun i u x hu hx => ?_⟩
    simp only [evP, Array.toList_map, List.getElem?_map] at hu
    cases hq : ps.toList[i]? with
    | none => rw [hq] at hu; cases hu
    | some q =>
      rw [hq] at hu
      simp at hu
      have h1 := congrArg (·[i]?) hp
      simp only [List.getElem?_map, hq, hx, Option.map_some, Option.some.injEq] at h1
      injection h1 with h1 h2
      rw [← hu]
      exact ⟨h1, (h q.2 (by simp [ho, Op.operands]; exact ⟨q.1, Array.mem_toList_iff.1 (List.mem_of_getElem? hq)⟩)).rowR h2⟩
  have hfill := fill_run (fun i => some (i * sz, sz)) (evP a ps).toList z.cells fun p hp => by
    obtain ⟨i, hi', rfl⟩ := List.getElem_of_mem hp
    have hi2 : i < rows.length := by rw [← hrl.1]; exact hi'
    obtain ⟨e1, e2⟩ := hrl.2 i _ _ (List.getElem?_eq_getElem hi') (List.getElem?_eq_getElem hi2)
    have h3 := List.all_eq_true.1 hr rows[i] (List.getElem_mem hi2)
    rw [e1]
    simp only [Bool.and_eq_true, beq_iff_eq, decide_eq_true_eq] at h3
    have e5 : (evP a ps).toList[i].2.cells.size = sz := by rw [← h3.1, ← e2.1]; simp
    refine ⟨rows[i].1 * sz, by rw [e5], ?_⟩
    rw [e5, hz.2.1]; exact h3.2
  have hf2 := rl_foldl_ref (T := T) (P := C.P) (S := S) (w := w) (vals := vals) (fun i => i * sz) _ _ _ _ hrl (hz.rl.mono fun u x h => Rep.ref (T := T) (vals := vals) h)
  rw [hx] at hf2
  refine ⟨.agg ((evP a ps).toList.foldl (fun cs p => splice cs (p.1 * sz) p.2.cells.toList) z.cells.toList).toArray, fun w => ?_, ⟨_, rfl, hf2⟩⟩
  have he : execOp a.eval o = (do let v ← Instr.build t (evP a ps); pure (Next.value v) : Sem Next) := by simp only [execOp, ho]; rfl
  rw [he]
  have hfill' : Instr.fill (fun i => some (i * sz, sz)) z.cells (evP a ps).toList = _ := hfill
  simp only [Instr.build, Sem.run_bind, hz.run, run_underlying ht, Result.andThen_ok, run_sizeOf hs, hfill', Sem.run_pure]
  simp
end Go.Proofs.YtfmnaigedgmhoaaGreatDoor
namespace Go.Proofs.YtfmnaigedgmhoaaGreatDoor
open Go.RowKit
set_option linter.unusedSimpArgs false
set_option linter.unusedVariables false
theorem own_app_str {P : Program} {w : World} {t u ty e : TypeId} {i : TypeInfo} (ht : P.underlying t = some (.slice e)) (hu : P.underlying u = some .string) (hi : P.info? e = some i) (hz : i.zero = some (.int .u8 0)) (hsize : i.size = 1) (hby : i.bytes = 1)
    {v : Value} {n : Nat} {xs : List Value} (hown : w.ownsRow 0 e 1 v n xs) (s : ByteArray) (hb : n + s.size ≤ 140737488355328) :
    ∃ v' w', (Builtin.append_ #[t, u] ty #[v, .string s]).run P w = .ok v' w' ∧ w'.ownsRow 0 e 1 v' (n + s.size) (xs ++ Lib.strCells s) ∧ w.grownBy w' v.ownBlock ∧ (v'.ownBlock = v.ownBlock ∨ v'.ownBlock = some w.heap.size) := by
  have hmax : n + s.size ≤ maxLen := by unfold maxLen; omega
  obtain ⟨v', w', hr, ho, hg, hn⟩ := Lib.run_append_own_string (P := P) w 0 t u ty e i ht hu hi hz hsize hby v n xs hown s hmax hb (Nat.zero_le _)
  refine ⟨v', w', hr, ho, hg, ?_⟩
  rcases hown.2 with ⟨rfl, rfl⟩ | ⟨g, cap, cur, rfl, -, hgg, hnc, hcm, hcs, htake⟩
  · by_cases hm : s.size = 0
    · left; rw [hn.2 ⟨rfl, hm⟩]
    have h1 := run_append_nil_string (P := P) w t u ty e i (.int .u8 0) ht hu hi hz s (by omega) (by omega) (by rw [hby]; omega)
    rw [hr] at h1
    injection h1 with h1 _
    right; rw [h1]; rfl
  by_cases hroom : n + s.size ≤ cap
  · have hcs2 : cur.size = cap := by simpa using hcs
    have h1 := Lib.run_append_room_string (P := P) w t u ty e i ht hu hi hsize g n cap cur hgg s hroom (by omega)
    rw [hr] at h1
    injection h1 with h1 _
    left; rw [h1]; rfl
  have holds : ∀ j u, xs[j]? = some u → w.cell? ((⟨g, 0, none⟩ : Addr).add j) = some u := hown.cells (g := g) rfl
  have h1 := Lib.run_append_grow_string (P := P) w t u ty e i (.int .u8 0) ht hu hi hz ⟨g, 0, none⟩ n cap xs (by rw [hsize]; simpa using hown.1) holds s (by omega) (by omega) (by rw [hby]; exact growslice_fits (by omega) (by omega))
  rw [hr] at h1
  injection h1 with h1 _
  right; rw [h1]; rfl
abbrev strRows (s : ByteArray) : List (List AV) := s.data.toList.map fun b => [.v (.int .u8 (b.toNat : Nat))]
theorem strRows_len (s : ByteArray) : (strRows s).length = s.size := by
  rw [List.length_map, Array.length_toList]; rfl
theorem flat_one {α : Type} (f : UInt8 → α) : ∀ l : List UInt8, (l.map fun b => [f b]).flatten = l.map f
  | [] => rfl
  | x :: l => by rw [List.map_cons, List.flatten_cons, flat_one f l]; rfl
theorem run_app_str {P : Program} {S : Nat → Prop} {w : World} {t u e ty : TypeId} (ht : P.underlying t = some (.slice e)) (hu : P.underlying u = some .string) (hz : zeroIs P e (.int .u8 0) 1 1) {bs : List Nat} {v : Value} {es : List (List AV)} {s : ByteArray}
    (h : Rep P S w bs v (.own e es)) (hnd : bs.Nodup) (hap : ∀ q ∈ bs, ¬ S q) (hlen : es.length + s.size ≤ 140737488355328) :
    ∃ v' w' bs', (Builtin.append_ #[t, u] ty #[v, .string s]).run P w = .ok v' w' ∧ Rep P S w' bs' v' (.own e (es ++ strRows s)) ∧ bs'.Nodup ∧ (∀ q ∈ bs', q ∈ bs ∨ w.heap.size ≤ q) ∧ Kept (fun q => q ∉ bs) w w' := by
  obtain ⟨us0, sz0, bss, rfl, hi, hsz, hown, hul, hbl, hcc⟩ := h.own_inv
  obtain rfl := hi.inj hz.size
  obtain ⟨hzi, hz2, hz3⟩ := hz
  obtain ⟨i, hii, hz0, hz1, hz4⟩ := info_parts hzi
  obtain ⟨v', w', hrun, ho, hg, hb'⟩ := own_app_str (ty := ty) ht hu hii hz0 hz1 hz4 hown s hlen
  have hsl : (Lib.strCells s).length = s.size := Lib.strCells_length s
  have hfl : (strRows s).flatten = s.data.toList.map fun b => AV.v (.int .u8 (b.toNat : Nat)) := flat_one _ _
  have hk : Kept (fun q => some q ≠ v.ownBlock) w w' := (Kept.refl _ _).grown hg fun k hk => .inl fun h => h hk.symm
  rw [List.nodup_append] at hnd
  obtain ⟨nd1, nd2, nd3⟩ := hnd
  have hvS : ∀ k, k < w.heap.size → S k → some k ≠ v.ownBlock := fun k _ hk he => hap k (List.mem_append_left _ (by rw [← he]; simp)) hk
  refine ⟨v', w', v'.ownBlock.toList ++ (bss ++ List.replicate s.size []).flatten, hrun, ?_, ?_, ?_, ?_⟩
  · refine Rep.own (us := us0 ++ Lib.strCells s) hi ?_ (by rw [List.length_append, strRows_len]; exact ho) (by rw [List.flatten_append, List.length_append, List.length_append, hul, hfl, List.length_map, hsl, Array.length_toList]; rfl) (by simp [hbl, hsl]) fun q u x bq h1 h2 h3 => ?_
    · intro x hx
      rcases List.mem_append.1 hx with h | h
      · exact hsz x h
      obtain ⟨b, _, rfl⟩ := List.mem_map.1 h; rfl
    rw [List.flatten_append] at h2
    by_cases hq : q < us0.length
    · rw [List.getElem?_append_left hq] at h1
      rw [List.getElem?_append_left (by rw [← hul]; exact hq)] at h2
      rw [List.getElem?_append_left (by rw [hbl]; exact hq)] at h3
      refine (hcc q u x bq h1 h2 h3).kept hk hvS fun b' hb' he => ?_
      exact nd3 b' (by rw [← he]; simp) b' (List.mem_flatten.2 ⟨bq, List.mem_of_getElem? h3, hb'⟩) rfl
    rw [List.getElem?_append_right (by omega)] at h1
    rw [List.getElem?_append_right (by rw [← hul]; omega), ← hul, hfl] at h2
    rw [List.getElem?_append_right (by rw [hbl]; omega), hbl] at h3
    have : bq = [] := by rw [List.getElem?_replicate] at h3; split at h3 <;> simp_all
    subst this
    unfold Lib.strCells at h1
    rw [List.getElem?_map] at h1 h2
    cases hc : s.data.toList[q - us0.length]? with
    | none => rw [hc] at h1; cases h1
    | some c =>
      rw [hc] at h1 h2
      simp only [Option.map_some, Option.some.injEq] at h1 h2
      subst h1; subst h2
      exact .v rfl
  · rw [List.flatten_append, List.flatten_replicate_nil, List.append_nil, List.nodup_append]
    refine ⟨by cases v'.ownBlock <;> simp, nd2, fun a ha b hb he => ?_⟩
    subst he
    rcases hb' with h1 | h1
    · rw [h1] at ha; exact nd3 a ha a hb rfl
    rw [h1] at ha
    simp at ha
    subst ha
    have := h.lt _ (List.mem_append_right _ hb)
    omega
  · intro q hq
    rw [List.flatten_append, List.flatten_replicate_nil, List.append_nil] at hq
    rcases List.mem_append.1 hq with h2 | h2
    · rcases hb' with h1 | h1
      · rw [h1] at h2; exact .inl (List.mem_append_left _ h2)
      rw [h1] at h2; simp at h2; right; omega
    exact .inl (List.mem_append_right _ h2)
  exact hk.mono fun k _ hk' he => hk' (List.mem_append_left _ (by rw [← he]; simp))
section
variable {C : Cx} {o : Oper} {ev : Operand → AV} {T : Sl}
theorem op_app_str {t u e : TypeId} {y q : Operand} {r k : Nat} {es : List (List AV)} {s : ByteArray} (ho : o.op = .call { callee := .builtin .append, args := #[y, q], argTypes := #[t, u] }) {len : Nat} (hy : ev y = .sl r k 0 len) (hs : ev q = .v (.string s)) (hT : T.slots[r]? = some (k, .own e es)) (hl : len = es.length)
    (ht : C.P.underlying t = some (.slice e)) (hu : C.P.underlying u = some .string) (hz : zeroIs C.P e (.int .u8 0) 1 1) (hb : es.length + s.size ≤ 140737488355328) {es' : List (List AV)} (he : es ++ strRows s = es') {n : Nat} (hn : es.length + s.size = n) :
    OpJ C o ev T (.sl r T.ep 0 n) ⟨T.slots.set r (T.ep, .own e es'), T.ep + 1⟩ := by
  intro a w S vals bss hm h K hK Q
  have h1 := h y (by simp [ho, Op.operands, Call.operands])
  have h2 := h q (by simp [ho, Op.operands, Call.operands])
  rw [hy] at h1
  rw [hs] at h2
  have e1 : a.eval q = .string s := h2.v
  obtain ⟨v, bs, hv, hbb, hrep⟩ := hm.slot hT
  have hmax : es.length + s.size ≤ maxLen := by
    unfold maxLen
    omega
  obtain ⟨v', w', bs', hrun, hrep', hnd, hsub, hk⟩ := run_app_str (P := C.P) (ty := o.type) ht hu hz hrep (hm.nodup r bs hbb) (hm.apart r bs hbb) hb
  obtain ⟨us0, sz0, bss0, -, hi0, hsz0, hown, -⟩ := hrep.own_inv
  obtain ⟨hol, A0, nn, cap, hve, g3, g4, g5, g6⟩ := h1.2.2 e es v sz0 hT hv hi0
  have hyv : a.eval y = v := by
    rcases g6 with ⟨-, h8⟩ | ⟨A', h8, _⟩
    · rw [h8, hve, hl]
      rcases hown.2 with ⟨hnil, h0'⟩ | ⟨g, cap', cur, hcap, -⟩
      · rw [hve] at hnil; injection hnil with q1 q2 q3; rw [q2, h0']
      rw [hve] at hcap; injection hcap with q1 q2 q3; rw [q2]
    omega
  rw [he] at hrep'
  obtain ⟨hm', hf⟩ := hm.set (k' := T.ep) (ep' := T.ep + 1) hT hv hbb hk hrep' hnd hsub (.inr ⟨rfl, rfl⟩)
  unfold Oper.wp execOp
  simp only [ho, resolve, invoke, builtin, Sem.run_bind, Sem.run_pure, Result.andThen_ok, List.map_toArray, List.map_cons, List.map_nil, hyv, e1, hrun]
  refine hK v' _ _ _ _ hm' hf ⟨by simp, hrep'.one, fun e2 es2 v2 sz2 q1 q2 q3 => ?_⟩
  have hrl : r < T.slots.length := (List.getElem?_eq_some_iff.1 hT).1
  have q1 : (T.slots.set r _)[r]? = _ := q1
  rw [getElem?_set_ _ _ _ _ hrl, if_pos rfl] at q1
  rw [getElem?_set_ _ _ _ _ (by rw [hm.nv]; exact hrl), if_pos rfl] at q2
  injection q1 with q1; injection q1 with _ q1; injection q1 with q1 q4
  injection q2 with q2
  subst q1; subst q2; subst q4
  obtain ⟨us1, sz1, bss1, -, hi1, hsz1, hown1, -⟩ := hrep'.own_inv
  have hel : es'.length = n := by rw [← he, List.length_append, strRows_len, hn]
  refine ⟨by omega, ?_⟩
  rcases hown1.2 with ⟨hnil, h0'⟩ | ⟨g, cap', cur, hcap, -, -, p1, p2, -⟩
  · exact ⟨none, 0, 0, hnil, by omega, Nat.le_refl _, by unfold maxLen; omega, .inl ⟨rfl, by rw [hnil, show n = 0 by omega]⟩⟩
  exact ⟨_, _, _, hcap, by omega, p1, p2, .inl ⟨rfl, by rw [hcap, hel]⟩⟩
end
end Go.Proofs.YtfmnaigedgmhoaaGreatDoor
namespace Go.Proofs.YtfmnaigedgmhoaaGreatDoor
open Go.RowKit
set_option linter.unusedSimpArgs false
set_option linter.unusedVariables false
def vCell (es : List (List AV)) : Prop := ∀ x ∈ es, ∀ c ∈ x, ∃ u, c = .v u
theorem Rep.own_v {P : Program} {S S' : Nat → Prop} {w : World} {bs : List Nat} {v : Value} {e : TypeId} {es : List (List AV)} (h : Rep P S w bs v (.own e es)) (hv : vCell es) : Rep P S' w bs v (.own e es) := by
  obtain ⟨us, sz, bss, rfl, hi, hsz, hown, hul, hbl, hc⟩ := h.own_inv
  refine .own hi hsz hown hul hbl fun i u x b h1 h2 h3 => ?_
  obtain ⟨row, hr, hx⟩ := List.mem_flatten.1 (List.mem_of_getElem? h2)
  obtain ⟨y, rfl⟩ := hv row hr x hx
  obtain ⟨rfl, rfl, ho⟩ := (hc i u _ b h1 h2 h3).v_inv
  exact .v ho
section
variable {C : Cx} {T : Sl} {S S2 : Nat → Prop} {vals : List Value} {bss : List (List Nat)} {w w' : World} {o : Oper} {ev : Operand → AV}
/-- A call that takes a slice of one's own and gives it back, longer. -/
theorem op_callA {f : FuncId} {args : Array Operand} {ts : Array TypeId} {r k : Nat} {e : TypeId} {es es' : List (List AV)} {xs : List AV} (ho : o.op = .call { callee := .value (.func f), args := args, argTypes := ts }) (hf : Enters C.P f) (hsp : Fn C.P f [.own e es] xs [.own e es'] [.any]) (hs : T.slots[r]? = some (k, .own e es)) (hv : RL (View1 T r k) (args.toList.map ev) xs)
    (hvc : vCell es') {n : Nat} (hn : es'.length = n) : OpJ C o ev T (.sl r T.ep 0 n) ⟨T.slots.set r (T.ep, .own e es'), T.ep + 1⟩ := by
  intro a w S vals bss hm h K hK Q
  have hrl : r < T.slots.length := (List.getElem?_eq_some_iff.1 hs).1
  have hargs : ∀ y ∈ args, TmpOK C.P S w T vals (a.eval y) (ev y) := fun y hy => h y (by simp [ho, Op.operands, Call.operands]; exact .inr hy)
  obtain ⟨v, bs, hvr, hbr, hrep⟩ := hm.slot hs
  have hcame : Came C.P [.own e es] xs w S [v] [bs] (args.toList.map a.eval) := by
    refine ⟨hm.glob, hm.lt, rfl, rfl, fun q x u b h1 h2 h3 => ?_, ⟨fun q b h1 => ?_, fun q q' b b' hne h1 h2 => ?_⟩, fun b ⟨q, b1, h1, h2⟩ => ?_, by have := hv.1; simpa using this, fun i u x h1 h2 => ?_⟩
    · cases q with
      | zero => simp at h1 h2 h3; subst h1; subst h2; subst h3; exact hrep
      | succ q => simp at h1
    · cases q with
      | zero => simp at h1; subst h1; exact hm.nodup r _ hbr
      | succ q => simp at h1
    · cases q with
      | zero => cases q' with
        | zero => exact absurd rfl hne
        | succ q' => simp at h2
      | succ q => simp at h1
    · cases q with
      | zero => simp at h1; subst h1; exact hm.apart r _ hbr b h2
      | succ q => simp at h1
    rw [List.getElem?_map] at h1
    cases hq : args.toList[i]? with
    | none => rw [hq] at h1; cases h1
    | some y =>
      rw [hq] at h1
      simp only [Option.map_some, Option.some.injEq] at h1
      subst h1
      exact view1_ok hm hs hvr (hv.2 i (ev y) x (by rw [List.getElem?_map, hq]; rfl) h2) (hargs y (Array.mem_toList_iff.1 (List.mem_of_getElem? hq)))
  have hc := hsp w S [v] [bs] _ hcame
  have hrun : (execOp a.eval o).run C.P w = .ok (.enter f (args.toList.map a.eval).toArray) w := by
    have e1 : (args.map a.eval) = (args.toList.map a.eval).toArray := by apply Array.toList_inj.1; simp
    simp only [execOp, ho, resolve, Act.eval, Deferred.ofValue, Sem.run_bind, Sem.run_pure, Result.andThen_ok, invoke]
    rw [← e1]
    simpa using hf _ w
  unfold Oper.wp
  rw [hrun, Oper.upon_enter]
  refine hc.mono ?_
  rintro ex w' ⟨us, ys', outs, bsr, bss', rfl, went, rfl, rfl⟩
  simp only
  obtain ⟨u, rfl⟩ : ∃ u, us = [u] := by
    match us, went.nu with
    | [u], _ => exact ⟨u, rfl⟩
  obtain ⟨b1, rfl⟩ : ∃ b, bsr = [b] := by
    match bsr, went.nr with
    | [b], _ => exact ⟨b, rfl⟩
  have hin1 : ∀ (b : List Nat) (q : Nat), InL [b] q ↔ q ∈ b := fun b q => by
    constructor
    · rintro ⟨i, b1, h1, h2⟩
      cases i with
      | zero => simp at h1; subst h1; exact h2
      | succ i => simp at h1
    intro h; exact ⟨0, b, rfl, h⟩
  have hk : Kept (fun q => q ∉ bs) w w' := went.kept.mono fun q _ h h' => h ((hin1 _ _).1 h')
  have hinR : ∀ q, q ∈ b1 → InL ([b1] ++ bss') q := fun q h => ⟨0, b1, rfl, h⟩
  have hmine : ∀ q, q ∈ b1 → q ∈ bs ∨ w.heap.size ≤ q := fun q h => ((went.mine q (hinR q h)).imp id (hin1 _ _).1).symm
  have hrep2 : Rep C.P S w' b1 u (.own e es') := by
    rcases went.res 0 u _ b1 rfl rfl rfl with h | ⟨rfl, h⟩
    · exact h.own_v hvc
    exact (show Rep C.P _ w' [] u (.own e es') from h).own_v hvc
  have hnd := went.own.nodup 0 b1 rfl
  obtain ⟨hm', hf'⟩ := hm.set (k' := T.ep) (ep' := T.ep + 1) hs hvr hbr hk hrep2 hnd hmine (.inr ⟨rfl, rfl⟩)
  refine hK _ _ _ _ _ hm' hf' ⟨by simp, hrep2.one, fun e2 es2 v2 sz2 q1 q2 q3 => ?_⟩
  have q1 : (T.slots.set r _)[r]? = _ := q1
  rw [getElem?_set_ _ _ _ _ hrl, if_pos rfl] at q1
  rw [getElem?_set_ _ _ _ _ (by rw [hm.nv]; exact hrl), if_pos rfl] at q2
  injection q1 with q1; injection q1 with _ q1; injection q1 with q1 q4
  injection q2 with q2
  subst q1; subst q2; subst q4
  obtain ⟨us1, sz1, bss1, -, hi1, hsz1, hown1, -⟩ := hrep2.own_inv
  refine ⟨by omega, ?_⟩
  rcases hown1.2 with ⟨hnil, h0'⟩ | ⟨g, cap', cur, hcap, -, -, p1, p2, -⟩
  · exact ⟨none, 0, 0, hnil, by omega, Nat.le_refl _, by unfold maxLen; omega, .inl ⟨rfl, by rw [hnil, show n = 0 by omega]; rfl⟩⟩
  exact ⟨_, _, _, hcap, by omega, p1, p2, .inl ⟨rfl, by rw [hcap, hn]; rfl⟩⟩
variable {Q : Exit → Sta → Prop} {σ : Sta}
/-- A slice that came in is taken for one's own: it leaves the slot that it came in. -/
theorem Gh.mv {r k len : Nat} {e : TypeId} {es : List (List AV)} (t : Nat) (ht : t < σ.n) (hv : σ.env t = .sl r k 0 len) (hT : σ.T.slots[r]? = some (k, .own e es)) :
    Gh C σ ⟨upd σ.env t (.sl σ.T.slots.length σ.T.ep 0 len), ⟨σ.T.slots.set r (k, .any) ++ [(σ.T.ep, .own e es)], σ.T.ep + 1⟩, σ.n⟩ := by
  intro a w ⟨hd, hn, S, vals, bss, hm, he⟩
  obtain ⟨v, bs, hvr, hbr, hrep⟩ := hm.slot hT
  have hrl : r < σ.T.slots.length := (List.getElem?_eq_some_iff.1 hT).1
  have hnv := hm.nv
  have hnb := hm.nb
  have slot' : ∀ {q kq : Nat} {x : AV}, (σ.T.slots.set r (k, AV.any) ++ [(σ.T.ep, AV.own e es)])[q]? = some (kq, x) → (q ≠ r ∧ q < σ.T.slots.length ∧ σ.T.slots[q]? = some (kq, x)) ∨ (q = r ∧ kq = k ∧ x = .any) ∨ (q = σ.T.slots.length ∧ kq = σ.T.ep ∧ x = .own e es) := fun {q kq x} h => by
    rw [getElem?_snoc] at h
    simp only [List.length_set] at h
    split at h
    · rename_i hl
      rw [getElem?_set_ _ _ _ _ hrl] at h
      split at h
      · rename_i hq
        injection h with h; injection h with h1 h2
        exact .inr (.inl ⟨hq.symm, h1.symm, h2.symm⟩)
      rename_i hq
      exact .inl ⟨fun h => hq h.symm, hl, h⟩
    split at h
    · rename_i hq
      injection h with h; injection h with h1 h2
      exact .inr (.inr ⟨hq, h1.symm, h2.symm⟩)
    cases h
  have val' : ∀ {q : Nat} {x : Value}, (vals ++ [v])[q]? = some x → (q < σ.T.slots.length ∧ vals[q]? = some x) ∨ (q = σ.T.slots.length ∧ x = v) := fun {q x} h => by
    rw [getElem?_snoc] at h
    split at h
    · exact .inl ⟨by omega, h⟩
    split at h
    · injection h with h; exact .inr ⟨by omega, h.symm⟩
    cases h
  have bs' : ∀ {q : Nat} {x : List Nat}, (bss.set r [] ++ [bs])[q]? = some x → (q ≠ r ∧ q < σ.T.slots.length ∧ bss[q]? = some x) ∨ (q = r ∧ x = []) ∨ (q = σ.T.slots.length ∧ x = bs) := fun {q x} h => by
    rw [getElem?_snoc] at h
    simp only [List.length_set] at h
    split at h
    · rename_i hl
      rw [getElem?_set_ _ _ _ _ (by rw [hnb]; exact hrl)] at h
      split at h
      · rename_i hq
        injection h with h
        exact .inr (.inl ⟨hq.symm, h.symm⟩)
      rename_i hq
      exact .inl ⟨fun h => hq h.symm, by omega, h⟩
    split at h
    · injection h with h; exact .inr (.inr ⟨by omega, h.symm⟩)
    cases h
  have hm' : Mem C ⟨σ.T.slots.set r (k, .any) ++ [(σ.T.ep, .own e es)], σ.T.ep + 1⟩ S (vals ++ [v]) (bss.set r [] ++ [bs]) w := by
    refine ⟨hm.kept, hm.s0, hm.sub, hm.lt, by simp [hnv], by simp [hnb], fun q kq x u b h1 h2 h3 => ?_, fun q b h => ?_, fun q q' b b' hne h1 h2 => ?_, fun q b h => ?_, fun q b h => ?_, fun q x hl h => ?_, fun q kq x h => ?_, by show 0 < σ.T.ep + 1; omega⟩
    · rcases slot' h1 with ⟨g1, g2, g3⟩ | ⟨rfl, rfl, rfl⟩ | ⟨rfl, rfl, rfl⟩
      · rcases val' h2 with ⟨_, g4⟩ | ⟨g4, _⟩
        · rcases bs' h3 with ⟨_, _, g5⟩ | ⟨g5, _⟩ | ⟨g5, _⟩
          · exact hm.rep q kq x u b g3 g4 g5
          · exact absurd g5 g1
          omega
        omega
      · rcases val' h2 with ⟨_, g4⟩ | ⟨g4, _⟩
        · rcases bs' h3 with ⟨g5, _⟩ | ⟨_, rfl⟩ | ⟨g5, _⟩
          · exact absurd rfl g5
          · rw [hvr] at g4; injection g4 with g4; subst g4; exact .any hrep.one
          omega
        omega
      rcases val' h2 with ⟨g4, _⟩ | ⟨_, rfl⟩
      · omega
      rcases bs' h3 with ⟨_, g5, _⟩ | ⟨g5, _⟩ | ⟨_, rfl⟩
      · omega
      · omega
      exact hrep
    · rcases bs' h with ⟨_, _, g⟩ | ⟨_, rfl⟩ | ⟨_, rfl⟩
      · exact hm.nodup q b g
      · simp
      exact hm.nodup r _ hbr
    · rcases bs' h1 with ⟨a1, a2, a3⟩ | ⟨_, rfl⟩ | ⟨a1, rfl⟩
      · rcases bs' h2 with ⟨c1, c2, c3⟩ | ⟨_, rfl⟩ | ⟨c1, rfl⟩
        · exact hm.disj q q' b b' hne a3 c3
        · simp
        exact hm.disj q r b _ a1 a3 hbr
      · simp
      rcases bs' h2 with ⟨c1, c2, c3⟩ | ⟨_, rfl⟩ | ⟨c1, rfl⟩
      · exact hm.disj r q' _ b' (fun h => c1 h.symm) hbr c3
      · simp
      omega
    · rcases bs' h with ⟨_, _, g⟩ | ⟨_, rfl⟩ | ⟨_, rfl⟩
      · exact hm.apart q b g
      · simp
      exact hm.apart r _ hbr
    · rcases bs' h with ⟨_, _, g⟩ | ⟨_, rfl⟩ | ⟨_, rfl⟩
      · exact hm.mine q b g
      · simp
      exact hm.mine r _ hbr
    · rcases slot' h with ⟨g1, g2, g3⟩ | ⟨rfl, g3, rfl⟩ | ⟨rfl, g3, _⟩
      · rw [getElem?_snoc, if_pos (by omega)]
        exact hm.root q x hl g3
      · rw [getElem?_snoc, if_pos (by omega)]
        exact hm.root q _ hl (by rw [g3]; exact hT)
      have := hm.pos; omega
    rcases slot' h with ⟨g1, g2, g3⟩ | ⟨rfl, rfl, rfl⟩ | ⟨rfl, rfl, rfl⟩
    · have := hm.ver q kq x g3; show kq < σ.T.ep + 1; omega
    · have := hm.ver q kq _ hT; show kq < σ.T.ep + 1; omega
    show σ.T.ep < σ.T.ep + 1; omega
  have hfl : Follows C.P S w σ.T vals S w ⟨σ.T.slots.set r (k, .any) ++ [(σ.T.ep, .own e es)], σ.T.ep + 1⟩ (vals ++ [v]) := fun u x hx => by
    cases x with
    | sl r1 k1 off len =>
      refine ⟨by have := hx.1; show k1 < σ.T.ep + 1; omega, hx.2.1, fun e2 es2 v2 sz2 q1 q2 q3 => ?_⟩
      rcases slot' q1 with ⟨g1, g2, g3⟩ | ⟨_, _, g3⟩ | ⟨_, g3, _⟩
      · rcases val' q2 with ⟨_, g4⟩ | ⟨g4, _⟩
        · exact hx.2.2 e2 es2 v2 sz2 g3 g4 q3
        omega
      · cases g3
      have := hx.1; omega
    | ptr r1 k1 i j =>
      refine ⟨by have := hx.1; show k1 < σ.T.ep + 1; omega, hx.2.1, fun e2 es2 v2 sz2 q1 q2 q3 => ?_⟩
      rcases slot' q1 with ⟨g1, g2, g3⟩ | ⟨_, _, g3⟩ | ⟨_, g3, _⟩
      · rcases val' q2 with ⟨_, g4⟩ | ⟨g4, _⟩
        · exact hx.2.2 e2 es2 v2 sz2 g3 g4 q3
        omega
      · cases g3
      have := hx.1; omega
    | mp r1 k1 =>
      refine ⟨by have := hx.1; show k1 < σ.T.ep + 1; omega, hx.2.1, fun b ks v2 q1 q2 => ?_⟩
      rcases slot' q1 with ⟨g1, g2, g3⟩ | ⟨_, _, g3⟩ | ⟨_, g3, _⟩
      · rcases val' q2 with ⟨_, g4⟩ | ⟨g4, _⟩
        · exact hx.2.2 b ks v2 g3 g4
        omega
      · cases g3
      have := hx.1; omega
    | _ => exact hx
  refine ⟨hd, hn, S, _, _, hm', fun q hq => ?_⟩
  show TmpOK _ _ _ _ _ _ (upd σ.env t _ q)
  unfold upd
  split
  · rename_i h
    subst h
    have h1 := he q hq
    rw [hv] at h1
    refine ⟨by show σ.T.ep < σ.T.ep + 1; omega, h1.2.1, fun e2 es2 v2 sz2 q1 q2 q3 => ?_⟩
    rcases slot' q1 with ⟨_, g2, _⟩ | ⟨g2, _⟩ | ⟨_, _, g3⟩
    · omega
    · omega
    injection g3 with g3 g4
    subst g3; subst g4
    rcases val' q2 with ⟨g4, _⟩ | ⟨_, rfl⟩
    · omega
    exact h1.2.2 _ _ _ _ hT hvr q3
  exact TmpOK.follows hfl (he q hq)
end
end Go.Proofs.YtfmnaigedgmhoaaGreatDoor
namespace Go.Proofs.YtfmnaigedgmhoaaGreatDoor
open Go.RowKit
set_option linter.unusedSimpArgs false
set_option linter.unusedVariables false
end Go.Proofs.YtfmnaigedgmhoaaGreatDoor
namespace Go.Proofs.YtfmnaigedgmhoaaGreatDoor
open Go.RowKit
set_option linter.unusedSimpArgs false
set_option linter.unusedVariables false
theorem op_slice3_full {C : Cx} {o : Oper} {ev : Operand → AV} {T : Sl} {t e : TypeId} {y q2 q3 : Operand} {es : List (List AV)} {sz n : Nat} {k2 k3 : IntKind} (ho : o.op = .slice t y none (some q2) (some q3)) (hy : ev y = .ro es) (h2 : ev q2 = .v (.int k2 (n : Int))) (h3 : ev q3 = .v (.int k3 (n : Int))) (hn : n = es.length)
    (ht : C.P.underlying t = some (.slice e)) (hs : sizeIs C.P e sz) : OpP C o ev T (.rof es) := by
  subst hn
  intro a w S vals bss hm h
  have h0 := h y (by simp [ho, Op.operands])
  have g2 := h q2 (by simp [ho, Op.operands])
  have g3 := h q3 (by simp [ho, Op.operands])
  rw [hy] at h0
  rw [h2] at g2; rw [h3] at g3
  obtain ⟨-, A, c, sz', us, e1, c1, c2, c3, c4, c5, c6⟩ := (show Rep C.P S w [] (a.eval y) (.ro es) from h0).ro_inv
  have hb : ∀ w', (Instr.sliceBounds true es.length c none (some (a.eval q2)) (some (a.eval q3))).run C.P w' = .ok (0, es.length, es.length) w' := fun w' => by
    rw [TmpOK.v g2, TmpOK.v g3]
    simp [Instr.sliceBounds, Instr.sliceBound, asIntOf, c1, Nat.max_eq_left]
  refine ⟨_, fun w' => by simp only [execOp, ho, e1, Sem.run_bind, Option.map_some, Option.map_none, run_slice_ ht hs w' (hb w'), Result.andThen_ok, Sem.run_pure]; rfl, ?_⟩
  have hA : (if es.length = 0 then A else A.map (·.add (0 * sz))) = A := by
    split
    · rfl
    rw [Nat.zero_mul]
    cases A with
    | none => rfl
    | some x => obtain ⟨g, oo, p⟩ := x; simp [Addr.add]
  show Rep C.P S w [] (.slice (if es.length = 0 then A else A.map (·.add (0 * sz))) (es.length - 0) (es.length - 0)) (.rof es)
  rw [hA, Nat.sub_zero]
  exact .rof (Nat.le_trans c1 c2) c3 c4 c5 c6
end Go.Proofs.YtfmnaigedgmhoaaGreatDoor
namespace Go.Proofs.YtfmnaigedgmhoaaGreatDoor
open Go.RowKit
set_option linter.unusedSimpArgs false
set_option linter.unusedVariables false
section
variable {C : Cx} {o : Oper} {ev : Operand → AV} {T : Sl} {t yt : TypeId} {p q : Operand} {k k' : IntKind} {x y z : Int}
end
end Go.Proofs.YtfmnaigedgmhoaaGreatDoor
namespace Go.Proofs.YtfmnaigedgmhoaaGreatDoor
open Go.RowKit
set_option linter.unusedSimpArgs false
set_option linter.unusedVariables false
section
variable {C : Cx} {ops : Array Oper} {Q : Exit → Sta → Prop}
theorem wpList_pre {P : Program} {Q' : Exit → Act → World → Prop} {D : World → Prop} {l2 : List Oper} : ∀ (l : List Oper) (a : Act) (w : World), D w → wpQuiet P ops D (fun a' => ∀ w', D w' → wpList P ops Q' l2 a' w') l a → wpList P ops Q' (l ++ l2) a w
  | [], a, w, hw, h => h w hw
  | o :: l, a, w, hw, h => by
    show wpList P ops Q' (o :: (l ++ l2)) a w
    refine wpList_step fun K' hK => ?_
    unfold wpQuiet at h
    split
    · rename_i hwn
      rw [if_pos hwn] at h
      exact Oper.wp_of_quiet hw (fun a' w' hw' hk => hK _ _ (wpList_pre l a' w' hw' hk)) h
    rename_i hwn
    rw [if_neg hwn] at h
    exact hK _ _ (wpList_pre l _ w hw h)
theorem AWL.quiet_pre {σ : Sta} {l : List Oper} (n : Nat) (h : AQ C ops (fun σ' => AWL C ops Q (l.drop n) σ') (l.take n) σ) : AWL C ops Q l σ := by
  intro a w ⟨hd, hn, S, vals, bss, hme, he⟩
  rw [← List.take_append_drop n l]
  refine wpList_pre (D := fun w' => Kept (fun _ => True) w w') (l.take n) a w (Kept.refl _ _) ?_
  refine wpQuiet_mono ?_ _ _ (h a w S vals bss ⟨hd, hn, hme, he⟩)
  rintro a' ⟨σ', hs, hq⟩ w' hk'
  obtain ⟨h1, h2, h3, h4⟩ := hs.grow hk'
  exact hq a' w' ⟨h1, h2, S, vals, bss, h3, h4⟩
end
end Go.Proofs.YtfmnaigedgmhoaaGreatDoor
namespace Go.Proofs.YtfmnaigedgmhoaaGreatDoor
open Go.RowKit
set_option linter.unusedSimpArgs false
set_option linter.unusedVariables false
set_option maxRecDepth 100000
abbrev rrC (B : BL) (s : RS) : List AV := [.ro (B.map bv), .v (.int .i64 ((B.length - s.b.length : Nat) : Int)), .v (.bool s.bad)]
theorem rr_eq (p b : BL) (bad : Bool) : rrC (p ++ b) ⟨b, bad⟩ = [.ro ((p ++ b).map bv), .v (.int .i64 (p.length : Nat)), .v (.bool bad)] := by
  unfold rrC; rw [List.length_append, Nat.add_sub_cancel]
theorem rr_nil (p : BL) (bad : Bool) : rrC p ⟨[], bad⟩ = [.ro (p.map bv), .v (.int .i64 (p.length : Nat)), .v (.bool bad)] := rfl
theorem rr_cons (p r : BL) (a : UInt8) (bad : Bool) : rrC (p ++ a :: r) ⟨r, bad⟩ = [.ro ((p ++ a :: r).map bv), .v (.int .i64 ((p.length : Int) + 1)), .v (.bool bad)] := by
  unfold rrC; rw [List.length_append, List.length_cons, show p.length + (r.length + 1) - r.length = p.length + 1 by omega]; rfl
theorem get_mid (p r : BL) (a : UInt8) : ((p ++ a :: r).map bv)[p.length]? = some (bv a) := by
  rw [List.getElem?_map, List.getElem?_append_right (Nat.le_refl _), Nat.sub_self]; rfl
def byN (s : RS) : Nat × RS := match s.b with
  | [] => (0, ⟨[], true⟩)
  | a :: r => (a.toNat, ⟨r, s.bad⟩)
theorem byN_suf (s : RS) : (byN s).2.b <:+ s.b := by
  obtain ⟨b, bad⟩ := s
  cases b with
  | nil => exact List.suffix_refl _
  | cons a r => exact List.suffix_cons _ _
theorem byN_lt (s : RS) : (byN s).1 < 256 := by
  obtain ⟨b, bad⟩ := s
  cases b with
  | nil => show (0 : Nat) < 256; decide
  | cons a r => exact a.toNat_lt
theorem byR_eq (s : RS) : byR s = (((byN s).1 : Int), (byN s).2) := by
  obtain ⟨b, bad⟩ := s
  cases b <;> rfl
set_option maxHeartbeats 8000000 in
theorem C55 {B : BL} {s : RS} (hs : s.b <:+ B) (hB : B.length ≤ 1000000) : Fn Tryz.prog 55 [.own 82 [rrC B s]] [.ptr 0 0 0 0] [.v (.int .i64 ((byN s).1 : Nat))] [.own 82 [rrC B (byN s).2]] := by
  obtain ⟨b, bad⟩ := s
  obtain ⟨p, rfl⟩ := hs
  have hpl : p.length ≤ 1000000 := (by rw [List.length_append] at hB; omega)
  rw [rr_eq]
  refine Spec.body Tryz.func55 rfl Tryz.ntmps55 (by simp) rfl ?_; intro S0 own0 v0 w0 gl
  (refine AW.seq_k ?_; intro K hK)
  refine AW.region ?_
  refine awP (op_assign rfl rfl) ?_; (try simp only [nA, Nat.reduceBEq, Nat.reduceEqDiff, ↓reduceIte, Nat.reduceAdd, Nat.reduceSub])
  refine AWL.nil ?_
  (refine hK _ ?_; clear hK K; (try simp only [nA, Nat.reduceBEq, Nat.reduceEqDiff, ↓reduceIte, Nat.reduceAdd, Nat.reduceSub]))
  (refine AW.seq_k ?_; intro K hK)
  (refine AW.seq_k ?_; intro K hK)
  refine AW.quiet mix (by kernel_rfl) ?_
  refine aqP (op_move rfl rfl) ?_; (simp only [nA, ↓reduceIte])
  (refine aqP (op_nil_slot rfl rfl rfl) ?_); (try simp only [nA, Nat.reduceBEq, Nat.reduceEqDiff, ↓reduceIte, Nat.reduceAdd, Nat.reduceSub])
  (refine aqP (op_fa_ptr rfl rfl rfl fl82_1 (by exact sz3) (by decide) rfl) ?_); (try simp only [nA, Nat.reduceBEq, Nat.reduceEqDiff, ↓reduceIte, Nat.reduceAdd, Nat.reduceSub])
  (refine aqR (op_load_ptr1 rfl rfl rfl rfl ag3 rfl rfl) ?_); (try simp only [nA, Nat.reduceBEq, Nat.reduceEqDiff, ↓reduceIte, Nat.reduceAdd, Nat.reduceSub])
  refine aqP (op_move rfl rfl) ?_; (simp only [nA, ↓reduceIte])
  (refine aqP (op_nil_slot rfl rfl rfl) ?_); (try simp only [nA, Nat.reduceBEq, Nat.reduceEqDiff, ↓reduceIte, Nat.reduceAdd, Nat.reduceSub])
  (refine aqP (op_fa_ptr rfl rfl rfl fl82_0 (by exact sz22) (by decide) rfl) ?_); (try simp only [nA, Nat.reduceBEq, Nat.reduceEqDiff, ↓reduceIte, Nat.reduceAdd, Nat.reduceSub])
  (refine aqR (op_load_ptr1 rfl rfl rfl rfl ag22 rfl rfl) ?_); (try simp only [nA, Nat.reduceBEq, Nat.reduceEqDiff, ↓reduceIte, Nat.reduceAdd, Nat.reduceSub])
  refine aqP (op_len_ro (n := (p ++ b).length) rfl rfl Tryz.underlying22 (.inr (.inl ⟨_, rfl, by simp⟩))) ?_; (try simp only [nA, Nat.reduceBEq, Nat.reduceEqDiff, ↓reduceIte, Nat.reduceAdd, Nat.reduceSub])
  refine aqP (op_geq rfl rfl rfl) ?_; (try simp only [nA, Nat.reduceBEq, Nat.reduceEqDiff, ↓reduceIte, Nat.reduceAdd, Nat.reduceSub])
  refine AQ.nil ?_
  (refine hK _ ?_; clear hK K; (skip))
  refine AW.cond rfl rfl rfl (fun hc => ?_) (fun hc => ?_)
  ·
   have hc1 := hc; obtain rfl : b = [] := (by have := of_decide_eq_true hc1; rw [List.length_append] at this; exact List.eq_nil_of_length_eq_zero (by omega))
   (refine AW.seq_k ?_; intro K hK)
   refine AW.region ?_
   refine awP (op_move rfl rfl) ?_; (simp only [nA, ↓reduceIte])
   (refine awP (op_nil_slot rfl rfl rfl) ?_); (try simp only [nA, Nat.reduceBEq, Nat.reduceEqDiff, ↓reduceIte, Nat.reduceAdd, Nat.reduceSub])
   (refine awP (op_fa_ptr rfl rfl rfl fl82_2 (by exact sz4) (by decide) rfl) ?_); (try simp only [nA, Nat.reduceBEq, Nat.reduceEqDiff, ↓reduceIte, Nat.reduceAdd, Nat.reduceSub])
   refine awJ (op_store rfl rfl rfl rfl rfl rfl sz4 rfl (bl rfl) rfl) ?_; (try simp only [nA, Nat.reduceBEq, Nat.reduceEqDiff, ↓reduceIte, Nat.reduceAdd, Nat.reduceSub])
   refine AWL.nil ?_
   (refine hK _ ?_; clear hK K; (try simp only [nA, Nat.reduceBEq, Nat.reduceEqDiff, ↓reduceIte, Nat.reduceAdd, Nat.reduceSub]))
   (refine AW.seq_k ?_; intro K hK)
   refine AW.region ?_
   refine awP (op_assign rfl rfl) ?_; (try simp only [nA, Nat.reduceBEq, Nat.reduceEqDiff, ↓reduceIte, Nat.reduceAdd, Nat.reduceSub])
   refine AWL.nil ?_
   (refine hK _ ?_; clear hK K; (skip))
   skip
   refine AW.ret ?_; (try simp only [thenE, inBlk, Nat.reduceEqDiff, ↓reduceIte]); rw [show byN ⟨[], bad⟩ = (0, ⟨[], true⟩) from rfl]; dsimp only; rw [rr_nil]; exact RQ.of (.inl rfl) rfl (.tmp (bl rfl) rfl rfl .nil) (by simp) rfl (one_out rfl)
  have hc1 := hc; obtain ⟨a, r, rfl⟩ : ∃ a r, b = a :: r := (by cases b with | nil => (have := of_decide_eq_false hc1; rw [List.append_nil] at this; omega) | cons a r => exact ⟨a, r, rfl⟩)
  refine AW.skip ?_
  (refine hK _ ?_; clear hK K; (skip))
  (refine AW.seq_k ?_; intro K hK)
  refine AW.region ?_
  refine awP (op_move rfl rfl) ?_; (simp only [nA, ↓reduceIte])
  (refine awP (op_nil_slot rfl rfl rfl) ?_); (try simp only [nA, Nat.reduceBEq, Nat.reduceEqDiff, ↓reduceIte, Nat.reduceAdd, Nat.reduceSub])
  (refine awP (op_fa_ptr rfl rfl rfl fl82_1 (by exact sz3) (by decide) rfl) ?_); (try simp only [nA, Nat.reduceBEq, Nat.reduceEqDiff, ↓reduceIte, Nat.reduceAdd, Nat.reduceSub])
  (refine awR (op_load_ptr1 rfl rfl rfl rfl ag3 rfl rfl) ?_); (try simp only [nA, Nat.reduceBEq, Nat.reduceEqDiff, ↓reduceIte, Nat.reduceAdd, Nat.reduceSub])
  (refine awP (op_addi rfl rfl rfl (by omega)) ?_); (try simp only [nA, Nat.reduceBEq, Nat.reduceEqDiff, ↓reduceIte, Nat.reduceAdd, Nat.reduceSub])
  (refine awP (op_nil_slot rfl rfl rfl) ?_); (try simp only [nA, Nat.reduceBEq, Nat.reduceEqDiff, ↓reduceIte, Nat.reduceAdd, Nat.reduceSub])
  (refine awP (op_fa_ptr rfl rfl rfl fl82_1 (by exact sz3) (by decide) rfl) ?_); (try simp only [nA, Nat.reduceBEq, Nat.reduceEqDiff, ↓reduceIte, Nat.reduceAdd, Nat.reduceSub])
  refine awJ (op_store rfl rfl rfl rfl rfl rfl sz3 rfl (bl rfl) rfl) ?_; (simp only [nA, ↓reduceIte])
  refine AWL.nil ?_
  (refine hK _ ?_; clear hK K; (skip))
  (refine AW.seq_k ?_; intro K hK)
  refine AW.quiet mix (by kernel_rfl) ?_
  refine aqP (op_move rfl rfl) ?_; (simp only [nA, ↓reduceIte])
  (refine aqP (op_nil_slot rfl rfl rfl) ?_); (try simp only [nA, Nat.reduceBEq, Nat.reduceEqDiff, ↓reduceIte, Nat.reduceAdd, Nat.reduceSub])
  (refine aqP (op_fa_ptr rfl rfl rfl fl82_0 (by exact sz22) (by decide) rfl) ?_); (try simp only [nA, Nat.reduceBEq, Nat.reduceEqDiff, ↓reduceIte, Nat.reduceAdd, Nat.reduceSub])
  (refine aqR (op_load_ptr1 rfl rfl rfl rfl ag22 rfl rfl) ?_); (try simp only [nA, Nat.reduceBEq, Nat.reduceEqDiff, ↓reduceIte, Nat.reduceAdd, Nat.reduceSub])
  refine aqP (op_move rfl rfl) ?_; (simp only [nA, ↓reduceIte])
  (refine aqP (op_nil_slot rfl rfl rfl) ?_); (try simp only [nA, Nat.reduceBEq, Nat.reduceEqDiff, ↓reduceIte, Nat.reduceAdd, Nat.reduceSub])
  (refine aqP (op_fa_ptr rfl rfl rfl fl82_1 (by exact sz3) (by decide) rfl) ?_); (try simp only [nA, Nat.reduceBEq, Nat.reduceEqDiff, ↓reduceIte, Nat.reduceAdd, Nat.reduceSub])
  (refine aqR (op_load_ptr1 rfl rfl rfl rfl ag3 rfl rfl) ?_); (try simp only [nA, Nat.reduceBEq, Nat.reduceEqDiff, ↓reduceIte, Nat.reduceAdd, Nat.reduceSub])
  refine aqP (op_sub rfl rfl rfl (z := (p.length : Int)) (by rw [IntKind.wrap_i64]; omega)) ?_; (try simp only [nA, Nat.reduceBEq, Nat.reduceEqDiff, ↓reduceIte, Nat.reduceAdd, Nat.reduceSub])
  refine aqP (op_ia_ro p.length rfl (.inl rfl) rfl Tryz.underlying22 rfl (get_mid p r a) (by exact sz5) (bl rfl)) ?_; (try simp only [nA, Nat.reduceBEq, Nat.reduceEqDiff, ↓reduceIte, Nat.reduceAdd, Nat.reduceSub])
  (refine aqR (op_load_rop1 rfl rfl ag5) ?_); (try simp only [nA, Nat.reduceBEq, Nat.reduceEqDiff, ↓reduceIte, Nat.reduceAdd, Nat.reduceSub])
  refine aqP (op_conv rfl rfl Tryz.underlying5 Tryz.underlying3 (wrapB _)) ?_; (try simp only [nA, Nat.reduceBEq, Nat.reduceEqDiff, ↓reduceIte, Nat.reduceAdd, Nat.reduceSub])
  refine aqP (op_assign rfl rfl) ?_; (simp only [nA])
  refine AQ.nil ?_
  (refine hK _ ?_; clear hK K; (skip))
  skip
  refine AW.ret ?_; (try simp only [thenE, inBlk, Nat.reduceEqDiff, ↓reduceIte]); rw [show byN ⟨a :: r, bad⟩ = (a.toNat, ⟨r, bad⟩) from rfl]; dsimp only; rw [rr_cons]; exact RQ.of (.inl rfl) rfl (.tmp (bl rfl) rfl rfl .nil) (by simp) rfl (one_out rfl)
def bysN : Nat → RS → Nat × RS
  | 0, s => (0, s)
  | i + 1, s => ((bysN i s).1 * 2 ^ 8 + (byN (bysN i s).2).1, (byN (bysN i s).2).2)
theorem bysN_suf (i : Nat) (s : RS) : (bysN i s).2.b <:+ s.b := by
  induction i with
  | zero => exact List.suffix_refl _
  | succ i ih => exact (byN_suf _).trans ih
theorem bysN_lt (i : Nat) (s : RS) : (bysN i s).1 < 256 ^ i := by
  induction i with
  | zero => show (0 : Nat) < 256 ^ 0; decide
  | succ i ih =>
    have := byN_lt (bysN i s).2
    show _ * 2 ^ 8 + _ < 256 ^ (i + 1)
    rw [Nat.pow_succ]; omega
def numN (s : RS) : Nat × RS := bysN 4 s
theorem numR_eq (s : RS) : numR s = (((numN s).1 : Int), (numN s).2) := by
  unfold numR numN mb
  simp only [byR_eq, mp, bysN]
  refine Prod.ext ?_ rfl
  show _ = _
  push_cast
  omega
theorem numN_suf (s : RS) : (numN s).2.b <:+ s.b := bysN_suf 4 s
theorem numN_lt (s : RS) : (numN s).1 < 4294967296 := bysN_lt 4 s
theorem shlN {n k : Nat} (h : n < 16777216) (hk : k ≤ 8) : IntKind.i64.wrap ((n : Int) * 2 ^ k) = ((n * 2 ^ k : Nat) : Int) := by
  have h2 : 2 ^ k ≤ 2 ^ 8 := Nat.pow_le_pow_right (by decide) hk
  have h3 : n * 2 ^ k ≤ 16777216 * 2 ^ 8 := Nat.mul_le_mul (by omega) h2
  have e : (n : Int) * 2 ^ k = ((n * 2 ^ k : Nat) : Int) := by simp
  rw [e, IntKind.wrap_i64]
  omega
set_option maxHeartbeats 8000000 in
theorem C31 {B : BL} {s : RS} (hs : s.b <:+ B) (hB : B.length ≤ 1000000) : Fn Tryz.prog 31 [.own 82 [rrC B s]] [.ptr 0 0 0 0] [.v (.int .i64 ((numN s).1 : Nat))] [.own 82 [rrC B (numN s).2]] := by
  unfold numN
  refine Spec.body Tryz.func31 rfl Tryz.ntmps31 (by simp) rfl ?_; intro S0 own0 v0 w0 gl
  (refine AW.seq_k ?_; intro K hK)
  refine AW.region ?_
  refine awP (op_assign rfl rfl) ?_; (try simp only [nA, Nat.reduceBEq, Nat.reduceEqDiff, ↓reduceIte, Nat.reduceAdd, Nat.reduceSub])
  refine AWL.nil ?_
  (refine hK _ ?_; clear hK K; (try simp only [nA, Nat.reduceBEq, Nat.reduceEqDiff, ↓reduceIte, Nat.reduceAdd, Nat.reduceSub]))
  (refine AW.seq_k ?_; intro K hK)
  refine AW.region ?_
  refine awP (op_assign rfl rfl) ?_; (try simp only [nA, Nat.reduceBEq, Nat.reduceEqDiff, ↓reduceIte, Nat.reduceAdd, Nat.reduceSub])
  refine AWL.nil ?_
  (refine hK _ ?_; clear hK K; (skip))
  (refine AW.seq_k ?_; intro K hK)
  (refine AW.seq_k ?_; intro K hK)
  refine AW.region ?_
  refine awP (op_assign rfl rfl) ?_; (try simp only [nA, Nat.reduceBEq, Nat.reduceEqDiff, ↓reduceIte, Nat.reduceAdd, Nat.reduceSub])
  refine AWL.nil ?_
  (refine hK _ ?_; clear hK K; (skip))
  refine AW.block ?_
  refine AW.loopI (fun (q : Nat × Nat) => [(0, .ptr 0 0 0 0), (3, .v (.int .i64 ((bysN q.1 s).1 : Nat))), (4, .v (.int .i64 (q.1 : Nat)))]) (fun q => ⟨[(0, .own 82 [rrC B (bysN q.1 s).2])], q.2⟩) (fun q => q.1 ≤ 4) (fun q => 4 - q.1) (0, _) (by simp) ⟨rfl, rfl, rfl, trivial⟩ rfl ?_; rintro ⟨i, ep⟩ ρ hi; dsimp only at hi ⊢; simp only [updL]
  (refine AW.seq_k ?_; intro K hK)
  (refine AW.seq_k ?_; intro K hK)
  refine AW.region ?_
  refine awP (op_move rfl rfl) ?_; (simp only [nA, ↓reduceIte])
  refine awP (op_lss rfl rfl rfl) ?_; (try simp only [nA, Nat.reduceBEq, Nat.reduceEqDiff, ↓reduceIte, Nat.reduceAdd, Nat.reduceSub])
  refine AWL.nil ?_
  (refine hK _ ?_; clear hK K; (skip))
  refine AW.cond rfl rfl rfl (fun hc => ?_) (fun hc => ?_)
  ·
   have hc1 := hc; have hlt : i < 4 := (by have := of_decide_eq_true hc1; omega); have hn := bysN_lt i s; have hn2 : (bysN i s).1 < 16777216 := Nat.lt_of_lt_of_le hn (Nat.pow_le_pow_right (by decide) (show i ≤ 3 by omega)); have hby := byN_lt (bysN i s).2
   refine AW.skip ?_
   (refine hK _ ?_; clear hK K; (skip))
   (refine AW.seq_k ?_; intro K hK)
   refine AW.block ?_
   refine AW.region ?_
   refine awP (op_move rfl rfl) ?_; (simp only [nA, ↓reduceIte])
   refine awP (op_shl (z := (((bysN i s).1 * 2 ^ 8 : Nat) : Int)) rfl rfl rfl (by decide) (shlN hn2 (by decide))) ?_; (try simp only [nA, Nat.reduceBEq, Nat.reduceEqDiff, ↓reduceIte, Nat.reduceAdd, Nat.reduceSub])
   refine awP (op_move rfl rfl) ?_; (simp only [nA, ↓reduceIte])
   refine awJ (op_call1 rfl en55 (C55 (B := B) (s := (bysN i s).2) ((bysN_suf i s).trans hs) hB) (by exact rfl) (RL.cons .ptr (RL.nil)) (by exact ⟨_, _, _, rfl, rfl, rfl⟩) (by exact rfl) (by exact rfl) (by exact rfl)) ?_; (try simp only [nA, Nat.reduceBEq, Nat.reduceEqDiff, ↓reduceIte, Nat.reduceAdd, Nat.reduceSub])
   refine awP (op_or rfl rfl rfl (or_add 8 _ _ (by omega) (by omega) (by omega))) ?_; (try simp only [nA, Nat.reduceBEq, Nat.reduceEqDiff, ↓reduceIte, Nat.reduceAdd, Nat.reduceSub])
   refine awP (op_assign rfl rfl) ?_; (simp only [nA])
   refine AWL.nil ?_
   (try simp only [thenE, inBlk, Nat.reduceEqDiff, ↓reduceIte])
   (refine hK _ ?_; clear hK K; (skip))
   refine AW.region ?_
   refine awP (op_move rfl rfl) ?_; (simp only [nA, ↓reduceIte])
   (refine awP (op_addi rfl rfl rfl (by omega)) ?_); (try simp only [nA, Nat.reduceBEq, Nat.reduceEqDiff, ↓reduceIte, Nat.reduceAdd, Nat.reduceSub])
   refine awP (op_assign rfl rfl) ?_; (simp only [nA])
   skip
   refine AWL.nil ?_
   refine ⟨(i + 1, _), by dsimp only; omega, by dsimp only; omega, ⟨rfl, rfl, by dsimp only; exact congrArg (fun z => AV.v (.int .i64 z)) (by omega), trivial⟩, (by rfl), (by rfl)⟩
  have hc1 := hc; obtain rfl : i = 4 := (by have := of_decide_eq_false hc1; omega)
  refine AW.exit ?_; (try simp only [thenE, inBlk, Nat.reduceEqDiff, ↓reduceIte])
  clear hK K
  (refine hK _ ?_; clear hK K; (skip))
  (refine AW.seq_k ?_; intro K hK)
  refine AW.region ?_
  refine awP (op_move rfl rfl) ?_; (simp only [nA, ↓reduceIte])
  refine awP (op_assign rfl rfl) ?_; (simp only [nA])
  refine AWL.nil ?_
  (refine hK _ ?_; clear hK K; (skip))
  skip
  refine AW.ret ?_; (try simp only [thenE, inBlk, Nat.reduceEqDiff, ↓reduceIte]); exact RQ.of (.inl rfl) rfl (.tmp (bl rfl) rfl rfl .nil) (by simp) rfl (one_out rfl)
end Go.Proofs.YtfmnaigedgmhoaaGreatDoor
namespace Go.Proofs.YtfmnaigedgmhoaaGreatDoor
open Go.RowKit
set_option linter.unusedSimpArgs false
set_option linter.unusedVariables false
set_option maxRecDepth 100000
theorem trR_eq (s : RS) : trR s = (decide (((byN s).1 : Int) = 1), ⟨(byN s).2.b, (byN s).2.bad || decide (((byN s).1 : Int) > 1)⟩) := by
  unfold trR mb; rw [byR_eq]
theorem trR_suf (s : RS) : (trR s).2.b <:+ s.b := by rw [trR_eq]; exact byN_suf s
set_option maxHeartbeats 8000000 in
theorem C32 {B : BL} {s : RS} (hs : s.b <:+ B) (hB : B.length ≤ 1000000) : Fn Tryz.prog 32 [.own 82 [rrC B s]] [.ptr 0 0 0 0] [.v (.bool (trR s).1)] [.own 82 [rrC B (trR s).2]] := by
  refine Spec.body Tryz.func32 rfl Tryz.ntmps32 (by simp) rfl ?_; intro S0 own0 v0 w0 gl
  (refine AW.seq_k ?_; intro K hK)
  refine AW.region ?_
  refine awP (op_assign rfl rfl) ?_; (try simp only [nA, Nat.reduceBEq, Nat.reduceEqDiff, ↓reduceIte, Nat.reduceAdd, Nat.reduceSub])
  refine AWL.nil ?_
  (refine hK _ ?_; clear hK K; (try simp only [nA, Nat.reduceBEq, Nat.reduceEqDiff, ↓reduceIte, Nat.reduceAdd, Nat.reduceSub]))
  (refine AW.seq_k ?_; intro K hK)
  refine AW.region ?_
  refine awP (op_move rfl rfl) ?_; (simp only [nA, ↓reduceIte])
  refine awJ (op_call1 rfl en55 (C55 (B := B) (s := s) hs hB) (by exact rfl) (RL.cons .ptr (RL.nil)) (by exact ⟨_, _, _, rfl, rfl, rfl⟩) (by exact rfl) (by exact rfl) (by exact rfl)) ?_; (try simp only [nA, Nat.reduceBEq, Nat.reduceEqDiff, ↓reduceIte, Nat.reduceAdd, Nat.reduceSub])
  refine awP (op_assign rfl rfl) ?_; (simp only [nA])
  refine AWL.nil ?_
  (refine hK _ ?_; clear hK K; (skip))
  (refine AW.seq_k ?_; intro K hK)
  refine AW.region (AWL.quiet_pre 11 ?_); simp only [List.take_succ_cons, List.take_zero, List.drop_succ_cons, List.drop_zero]
  refine aqP (op_move rfl rfl) ?_; (simp only [nA, ↓reduceIte])
  refine aqP (op_move rfl rfl) ?_; (simp only [nA, ↓reduceIte])
  (refine aqP (op_nil_slot rfl rfl rfl) ?_); (try simp only [nA, Nat.reduceBEq, Nat.reduceEqDiff, ↓reduceIte, Nat.reduceAdd, Nat.reduceSub])
  (refine aqP (op_fa_ptr rfl rfl rfl fl82_2 (by exact sz4) (by decide) rfl) ?_); (try simp only [nA, Nat.reduceBEq, Nat.reduceEqDiff, ↓reduceIte, Nat.reduceAdd, Nat.reduceSub])
  (refine aqR (op_load_ptr1 rfl rfl rfl rfl ag4 rfl rfl) ?_); (try simp only [nA, Nat.reduceBEq, Nat.reduceEqDiff, ↓reduceIte, Nat.reduceAdd, Nat.reduceSub])
  refine aqP (op_move rfl rfl) ?_; (simp only [nA])
  refine' aqOr' [_, _] [12,13] rfl rfl rfl rfl rfl rfl rfl rfl rfl rfl rfl rfl (fun hb => ?_) ?_; rotate_left
  ·
   (try simp only [hcS] at hb)
   refine aqP (op_move rfl rfl) ?_; (simp only [nA, ↓reduceIte])
   refine aqP (op_gtr rfl rfl rfl) ?_; (try simp only [nA, Nat.reduceBEq, Nat.reduceEqDiff, ↓reduceIte, Nat.reduceAdd, Nat.reduceSub])
   (refine aqSeg rfl rfl rfl ?_; repeat (first | exact fun _ _ => rfl | refine upd_out rfl ?_))
  (refine aqP (op_nil_slot rfl rfl rfl) ?_); (try simp only [nA, Nat.reduceBEq, Nat.reduceEqDiff, ↓reduceIte, Nat.reduceAdd, Nat.reduceSub])
  (refine aqP (op_fa_ptr rfl rfl rfl fl82_2 (by exact sz4) (by decide) rfl) ?_); (try simp only [nA, Nat.reduceBEq, Nat.reduceEqDiff, ↓reduceIte, Nat.reduceAdd, Nat.reduceSub])
  refine (AQ.nil ?_); show AWL _ _ _ _ _; refine awJ (op_store rfl rfl rfl rfl rfl rfl sz4 rfl (bl rfl) rfl) ?_; (simp only [nA, ↓reduceIte])
  refine AWL.nil ?_
  (refine hK _ ?_; clear hK K; (skip))
  (refine AW.seq_k ?_; intro K hK)
  refine AW.region ?_
  refine awP (op_move rfl rfl) ?_; (simp only [nA, Nat.reduceEqDiff, ↓reduceIte])
  (refine awP (op_eql rfl rfl rfl) ?_); (try simp only [nA, Nat.reduceBEq, Nat.reduceEqDiff, ↓reduceIte, Nat.reduceAdd, Nat.reduceSub])
  refine awP (op_assign rfl rfl) ?_; (simp only [nA])
  refine AWL.nil ?_
  (refine hK _ ?_; clear hK K; (skip))
  skip
  refine AW.ret ?_; (try simp only [thenE, inBlk, Nat.reduceEqDiff, ↓reduceIte]); rw [trR_eq]; exact RQ.of (.inl rfl) rfl (.tmp (bl rfl) rfl rfl .nil) (by simp) rfl (one_out rfl)
def tkN (n : Nat) (t : RS) : ByteArray × RS := if t.bad = true ∨ t.b.length < n then (emptyS, ⟨t.b, true⟩) else (strB (t.b.take n), ⟨t.b.drop n, t.bad⟩)
theorem wdR_eq (s : RS) : wdR s = tkN (numN s).1 (numN s).2 := by
  unfold wdR mb
  rw [numR_eq]
  unfold tkR tkN
  dsimp only
  by_cases h : (numN s).2.bad = true ∨ (numN s).2.b.length < (numN s).1
  · rw [if_pos h, if_pos (by rcases h with h | h; exact .inl h; exact .inr (by omega))]
  rw [if_neg h, if_neg (fun h' => h (by rcases h' with h' | h'; exact .inl h'; exact .inr (by omega))), Int.toNat_natCast]
theorem tkN_suf (n : Nat) (t : RS) : (tkN n t).2.b <:+ t.b := by
  unfold tkN; split
  · exact List.suffix_refl _
  exact List.drop_suffix _ _
theorem rr_drop (p b : BL) (n : Nat) (bad : Bool) (h : n ≤ b.length) : rrC (p ++ b) ⟨b.drop n, bad⟩ = [.ro ((p ++ b).map bv), .v (.int .i64 ((p.length : Int) + (n : Nat))), .v (.bool bad)] := by
  unfold rrC; rw [List.length_append, List.length_drop, show p.length + b.length - (b.length - n) = p.length + n by omega]; rfl
theorem mid_take (p b : BL) (n : Nat) : (((p ++ b).map bv).drop p.length).take (p.length + n - p.length) = (b.take n).map bv := by
  rw [Nat.add_sub_cancel_left, ← List.map_drop, List.drop_left, List.map_take]
set_option maxHeartbeats 8000000 in
theorem C29v {B : BL} {s t : RS} {n : Nat} (hB : B.length ≤ 1000000) (ht : t.b <:+ B) (hn : n < 4294967296) (g : Fn Tryz.prog 31 [.own 82 [rrC B s]] [.ptr 0 0 0 0] [.v (.int .i64 (n : Nat))] [.own 82 [rrC B t]]) :
    Fn Tryz.prog 29 [.own 82 [rrC B s]] [.ptr 0 0 0 0] [.v (.string (tkN n t).1)] [.own 82 [rrC B (tkN n t).2]] := by
  obtain ⟨b, bad⟩ := t
  obtain ⟨p, rfl⟩ := ht
  have hpl : p.length ≤ 1000000 := (by rw [List.length_append] at hB; omega)
  have hbl : b.length ≤ 1000000 := (by rw [List.length_append] at hB; dsimp only at hB; omega)
  rw [rr_eq] at g
  refine Spec.body Tryz.func29 rfl Tryz.ntmps29 (by simp) rfl ?_; intro S0 own0 v0 w0 gl
  (refine AW.seq_k ?_; intro K hK)
  refine AW.region ?_
  refine awP (op_assign rfl rfl) ?_; (try simp only [nA, Nat.reduceBEq, Nat.reduceEqDiff, ↓reduceIte, Nat.reduceAdd, Nat.reduceSub])
  refine AWL.nil ?_
  (refine hK _ ?_; clear hK K; (try simp only [nA, Nat.reduceBEq, Nat.reduceEqDiff, ↓reduceIte, Nat.reduceAdd, Nat.reduceSub]))
  (refine AW.seq_k ?_; intro K hK)
  refine AW.region ?_
  refine awP (op_move rfl rfl) ?_; (simp only [nA, ↓reduceIte])
  refine awJ (op_call1 rfl en31 g (by exact rfl) (RL.cons .ptr (RL.nil)) (by exact ⟨_, _, _, rfl, rfl, rfl⟩) (by exact rfl) (by exact rfl) (by exact rfl)) ?_; (try simp only [nA, Nat.reduceBEq, Nat.reduceEqDiff, ↓reduceIte, Nat.reduceAdd, Nat.reduceSub])
  refine awP (op_assign rfl rfl) ?_; (simp only [nA])
  refine AWL.nil ?_
  (refine hK _ ?_; clear hK K; (skip))
  (refine AW.seq_k ?_; intro K hK)
  (refine AW.seq_k ?_; intro K hK)
  refine AW.quiet mix (by kernel_rfl) ?_
  refine aqP (op_move rfl rfl) ?_; (simp only [nA, ↓reduceIte])
  (refine aqP (op_nil_slot rfl rfl rfl) ?_); (try simp only [nA, Nat.reduceBEq, Nat.reduceEqDiff, ↓reduceIte, Nat.reduceAdd, Nat.reduceSub])
  (refine aqP (op_fa_ptr rfl rfl rfl fl82_2 (by exact sz4) (by decide) rfl) ?_); (try simp only [nA, Nat.reduceBEq, Nat.reduceEqDiff, ↓reduceIte, Nat.reduceAdd, Nat.reduceSub])
  (refine aqR (op_load_ptr1 rfl rfl rfl rfl ag4 rfl rfl) ?_); (try simp only [nA, Nat.reduceBEq, Nat.reduceEqDiff, ↓reduceIte, Nat.reduceAdd, Nat.reduceSub])
  refine aqP (op_move rfl rfl) ?_; (simp only [nA])
  refine' aqOr' [_, _, _, _, _, _, _, _, _, _, _, _] [11,12,13,14,15,16,17,18,19,20,21,22] rfl rfl rfl rfl rfl rfl rfl rfl rfl rfl rfl rfl (fun hb => ?_) ?_; rotate_left
  ·
   (try simp only [hcS] at hb)
   refine aqP (op_move rfl rfl) ?_; (simp only [nA, ↓reduceIte])
   refine aqP (op_move rfl rfl) ?_; (simp only [nA, ↓reduceIte])
   (refine aqP (op_nil_slot rfl rfl rfl) ?_); (try simp only [nA, Nat.reduceBEq, Nat.reduceEqDiff, ↓reduceIte, Nat.reduceAdd, Nat.reduceSub])
   (refine aqP (op_fa_ptr rfl rfl rfl fl82_0 (by exact sz22) (by decide) rfl) ?_); (try simp only [nA, Nat.reduceBEq, Nat.reduceEqDiff, ↓reduceIte, Nat.reduceAdd, Nat.reduceSub])
   (refine aqR (op_load_ptr1 rfl rfl rfl rfl ag22 rfl rfl) ?_); (try simp only [nA, Nat.reduceBEq, Nat.reduceEqDiff, ↓reduceIte, Nat.reduceAdd, Nat.reduceSub])
   refine aqP (op_len_ro (n := (p ++ b).length) rfl rfl Tryz.underlying22 (.inr (.inl ⟨_, rfl, by simp⟩))) ?_; (try simp only [nA, Nat.reduceBEq, Nat.reduceEqDiff, ↓reduceIte, Nat.reduceAdd, Nat.reduceSub])
   refine aqP (op_move rfl rfl) ?_; (simp only [nA, ↓reduceIte])
   (refine aqP (op_nil_slot rfl rfl rfl) ?_); (try simp only [nA, Nat.reduceBEq, Nat.reduceEqDiff, ↓reduceIte, Nat.reduceAdd, Nat.reduceSub])
   (refine aqP (op_fa_ptr rfl rfl rfl fl82_1 (by exact sz3) (by decide) rfl) ?_); (try simp only [nA, Nat.reduceBEq, Nat.reduceEqDiff, ↓reduceIte, Nat.reduceAdd, Nat.reduceSub])
   (refine aqR (op_load_ptr1 rfl rfl rfl rfl ag3 rfl rfl) ?_); (try simp only [nA, Nat.reduceBEq, Nat.reduceEqDiff, ↓reduceIte, Nat.reduceAdd, Nat.reduceSub])
   refine aqP (op_sub rfl rfl rfl (z := (b.length : Int)) (by rw [List.length_append, IntKind.wrap_i64]; omega)) ?_; (try simp only [nA, Nat.reduceBEq, Nat.reduceEqDiff, ↓reduceIte, Nat.reduceAdd, Nat.reduceSub])
   refine aqP (op_gtr rfl rfl rfl) ?_; (try simp only [nA, Nat.reduceBEq, Nat.reduceEqDiff, ↓reduceIte, Nat.reduceAdd, Nat.reduceSub])
   (refine aqSeg rfl rfl rfl ?_; repeat (first | exact fun _ _ => rfl | refine upd_out rfl ?_))
  refine AQ.nil ?_
  (refine hK _ ?_; clear hK K; (skip))
  refine AW.cond rfl rfl rfl (fun hc => ?_) (fun hc => ?_)
  ·
   have hc1 := hc; have hT : bad = true ∨ b.length < n := (by rw [Bool.or_eq_true, decide_eq_true_eq] at hc1; exact hc1.imp id (fun h => by omega))
   (refine AW.seq_k ?_; intro K hK)
   refine AW.region ?_
   refine awP (op_move rfl rfl) ?_; (simp only [nA, Nat.reduceEqDiff, ↓reduceIte])
   (refine awP (op_nil_slot rfl rfl rfl) ?_); (try simp only [nA, Nat.reduceBEq, Nat.reduceEqDiff, ↓reduceIte, Nat.reduceAdd, Nat.reduceSub])
   (refine awP (op_fa_ptr rfl rfl rfl fl82_2 (by exact sz4) (by decide) rfl) ?_); (try simp only [nA, Nat.reduceBEq, Nat.reduceEqDiff, ↓reduceIte, Nat.reduceAdd, Nat.reduceSub])
   refine awJ (op_store rfl rfl rfl rfl rfl rfl sz4 rfl (bl rfl) rfl) ?_; (try simp only [nA, Nat.reduceBEq, Nat.reduceEqDiff, ↓reduceIte, Nat.reduceAdd, Nat.reduceSub])
   refine AWL.nil ?_
   (refine hK _ ?_; clear hK K; (skip))
   (refine AW.seq_k ?_; intro K hK)
   refine AW.region ?_
   refine awP (op_assign rfl rfl) ?_; (try simp only [nA, Nat.reduceBEq, Nat.reduceEqDiff, ↓reduceIte, Nat.reduceAdd, Nat.reduceSub])
   refine AWL.nil ?_
   (refine hK _ ?_; clear hK K; (skip))
   skip
   refine AW.ret ?_; (try simp only [thenE, inBlk, Nat.reduceEqDiff, ↓reduceIte]); rw [show tkN n ⟨b, bad⟩ = (emptyS, ⟨b, true⟩) from if_pos hT]; dsimp only; rw [rr_eq]; exact RQ.of (.inl rfl) rfl (.tmp (bl rfl) rfl rfl .nil) (by simp) rfl (one_out rfl)
  have hc1 := hc; have hF : ¬ (bad = true ∨ b.length < n) := (by rw [Bool.or_eq_false_iff, decide_eq_false_iff_not] at hc1; intro h; rcases h with h | h; exact absurd (h.symm.trans hc1.1) (by decide); omega); have hnb : n ≤ b.length := (by have := fun h => hF (.inr h); omega)
  refine AW.skip ?_
  (refine hK _ ?_; clear hK K; (skip))
  (refine AW.seq_k ?_; intro K hK)
  refine AW.region ?_
  refine awP (op_move rfl rfl) ?_; (simp only [nA, Nat.reduceEqDiff, ↓reduceIte])
  (refine awP (op_nil_slot rfl rfl rfl) ?_); (try simp only [nA, Nat.reduceBEq, Nat.reduceEqDiff, ↓reduceIte, Nat.reduceAdd, Nat.reduceSub])
  (refine awP (op_fa_ptr rfl rfl rfl fl82_1 (by exact sz3) (by decide) rfl) ?_); (try simp only [nA, Nat.reduceBEq, Nat.reduceEqDiff, ↓reduceIte, Nat.reduceAdd, Nat.reduceSub])
  (refine awR (op_load_ptr1 rfl rfl rfl rfl ag3 rfl rfl) ?_); (try simp only [nA, Nat.reduceBEq, Nat.reduceEqDiff, ↓reduceIte, Nat.reduceAdd, Nat.reduceSub])
  refine awP (op_move rfl rfl) ?_; (simp only [nA, Nat.reduceEqDiff, ↓reduceIte])
  (refine awP (op_addi rfl rfl rfl (by omega)) ?_); (try simp only [nA, Nat.reduceBEq, Nat.reduceEqDiff, ↓reduceIte, Nat.reduceAdd, Nat.reduceSub])
  (refine awP (op_nil_slot rfl rfl rfl) ?_); (try simp only [nA, Nat.reduceBEq, Nat.reduceEqDiff, ↓reduceIte, Nat.reduceAdd, Nat.reduceSub])
  (refine awP (op_fa_ptr rfl rfl rfl fl82_1 (by exact sz3) (by decide) rfl) ?_); (try simp only [nA, Nat.reduceBEq, Nat.reduceEqDiff, ↓reduceIte, Nat.reduceAdd, Nat.reduceSub])
  refine awJ (op_store rfl rfl rfl rfl rfl rfl sz3 rfl (bl rfl) rfl) ?_; (simp only [nA, ↓reduceIte])
  refine AWL.nil ?_
  (refine hK _ ?_; clear hK K; (skip))
  (refine AW.seq_k ?_; intro K hK)
  refine AW.quiet mix (by kernel_rfl) ?_
  refine aqP (op_move rfl rfl) ?_; (simp only [nA, Nat.reduceEqDiff, ↓reduceIte])
  (refine aqP (op_nil_slot rfl rfl rfl) ?_); (try simp only [nA, Nat.reduceBEq, Nat.reduceEqDiff, ↓reduceIte, Nat.reduceAdd, Nat.reduceSub])
  (refine aqP (op_fa_ptr rfl rfl rfl fl82_0 (by exact sz22) (by decide) rfl) ?_); (try simp only [nA, Nat.reduceBEq, Nat.reduceEqDiff, ↓reduceIte, Nat.reduceAdd, Nat.reduceSub])
  (refine aqR (op_load_ptr1 rfl rfl rfl rfl ag22 rfl rfl) ?_); (try simp only [nA, Nat.reduceBEq, Nat.reduceEqDiff, ↓reduceIte, Nat.reduceAdd, Nat.reduceSub])
  refine aqP (op_move rfl rfl) ?_; (simp only [nA, Nat.reduceEqDiff, ↓reduceIte])
  (refine aqP (op_nil_slot rfl rfl rfl) ?_); (try simp only [nA, Nat.reduceBEq, Nat.reduceEqDiff, ↓reduceIte, Nat.reduceAdd, Nat.reduceSub])
  (refine aqP (op_fa_ptr rfl rfl rfl fl82_1 (by exact sz3) (by decide) rfl) ?_); (try simp only [nA, Nat.reduceBEq, Nat.reduceEqDiff, ↓reduceIte, Nat.reduceAdd, Nat.reduceSub])
  (refine aqR (op_load_ptr1 rfl rfl rfl rfl ag3 rfl rfl) ?_); (try simp only [nA, Nat.reduceBEq, Nat.reduceEqDiff, ↓reduceIte, Nat.reduceAdd, Nat.reduceSub])
  refine aqP (op_move rfl rfl) ?_; (simp only [nA, Nat.reduceEqDiff, ↓reduceIte])
  refine aqP (op_sub rfl rfl rfl (z := (p.length : Int)) (by rw [IntKind.wrap_i64]; omega)) ?_; (try simp only [nA, Nat.reduceBEq, Nat.reduceEqDiff, ↓reduceIte, Nat.reduceAdd, Nat.reduceSub])
  refine aqP (op_move rfl rfl) ?_; (simp only [nA, Nat.reduceEqDiff, ↓reduceIte])
  (refine aqP (op_nil_slot rfl rfl rfl) ?_); (try simp only [nA, Nat.reduceBEq, Nat.reduceEqDiff, ↓reduceIte, Nat.reduceAdd, Nat.reduceSub])
  (refine aqP (op_fa_ptr rfl rfl rfl fl82_1 (by exact sz3) (by decide) rfl) ?_); (try simp only [nA, Nat.reduceBEq, Nat.reduceEqDiff, ↓reduceIte, Nat.reduceAdd, Nat.reduceSub])
  (refine aqR (op_load_ptr1 rfl rfl rfl rfl ag3 rfl rfl) ?_); (try simp only [nA, Nat.reduceBEq, Nat.reduceEqDiff, ↓reduceIte, Nat.reduceAdd, Nat.reduceSub])
  refine aqP (op_slice_ro p.length (p.length + n) rfl (.inl rfl) (by exact ⟨_, rfl⟩) (by exact ⟨_, rfl⟩) (by omega) (by rw [List.length_map, List.length_append]; omega) Tryz.underlying22 sz5 (bv_len _) (es' := (b.take n).map bv) (mid_take p b n)) ?_; (try simp only [nA, Nat.reduceBEq, Nat.reduceEqDiff, ↓reduceIte, Nat.reduceAdd, Nat.reduceSub])
  refine aqR (op_b2sR (l := b.take n) rfl rfl Tryz.underlying22 Tryz.underlying5 Tryz.underlying9 rfl) ?_; (try simp only [nA, Nat.reduceBEq, Nat.reduceEqDiff, ↓reduceIte, Nat.reduceAdd, Nat.reduceSub])
  refine aqP (op_assign rfl rfl) ?_; (simp only [nA])
  refine AQ.nil ?_
  (refine hK _ ?_; clear hK K; (skip))
  skip
  refine AW.ret ?_; (try simp only [thenE, inBlk, Nat.reduceEqDiff, ↓reduceIte]); rw [show tkN n ⟨b, bad⟩ = (strB (b.take n), ⟨b.drop n, bad⟩) from if_neg hF]; dsimp only; rw [rr_drop p b n bad hnb]; exact RQ.of (.inl rfl) rfl (.tmp (bl rfl) rfl rfl .nil) (by simp) rfl (one_out rfl)
theorem numR_suf (s : RS) : (numR s).2.b <:+ s.b := by rw [numR_eq]; exact numN_suf s
theorem wdR_suf (s : RS) : (wdR s).2.b <:+ s.b := by rw [wdR_eq]; exact (tkN_suf _ _).trans (numN_suf s)
section
variable {B : BL} {s : RS}
theorem D31r (hB : B.length ≤ 1000000) (hs : s.b <:+ B) : Fn Tryz.prog 31 [.own 82 [rrC B s]] [.ptr 0 0 0 0] [.v (.int .i64 (rR.num s).1)] [.own 82 [rrC B (rR.num s).2]] := by
  show Fn Tryz.prog 31 [.own 82 [rrC B s]] [.ptr 0 0 0 0] [.v (.int .i64 (numR s).1)] [.own 82 [rrC B (numR s).2]]
  rw [numR_eq]; exact C31 hs hB
theorem D32r (hB : B.length ≤ 1000000) (hs : s.b <:+ B) : Fn Tryz.prog 32 [.own 82 [rrC B s]] [.ptr 0 0 0 0] [.v (.bool (rR.tr s).1)] [.own 82 [rrC B (rR.tr s).2]] := C32 hs hB
theorem D29r (hB : B.length ≤ 1000000) (hs : s.b <:+ B) : Fn Tryz.prog 29 [.own 82 [rrC B s]] [.ptr 0 0 0 0] [.v (.string (rR.wd s).1)] [.own 82 [rrC B (rR.wd s).2]] := by
  show Fn Tryz.prog 29 [.own 82 [rrC B s]] [.ptr 0 0 0 0] [.v (.string (wdR s).1)] [.own 82 [rrC B (wdR s).2]]
  rw [wdR_eq]; exact C29v hB ((numN_suf s).trans hs) (numN_lt s) (C31 hs hB)
theorem suNr (hs : s.b <:+ B) : (rR.num s).2.b <:+ B := (numR_suf s).trans hs
theorem suTr (hs : s.b <:+ B) : (rR.tr s).2.b <:+ B := (trR_suf s).trans hs
theorem suWr (hs : s.b <:+ B) : (rR.wd s).2.b <:+ B := (wdR_suf s).trans hs
end
end Go.Proofs.YtfmnaigedgmhoaaGreatDoor
namespace Go.Proofs.YtfmnaigedgmhoaaGreatDoor
open Go.RowKit
set_option linter.unusedSimpArgs false
set_option linter.unusedVariables false
set_option maxRecDepth 100000
set_option maxHeartbeats 8000000 in
theorem C30v {B : BL} {s0 s1 s2 s3 : RS} {a b c : Int} (g0 : Fn Tryz.prog 31 [.own 82 [rrC B s0]] [.ptr 0 0 0 0] [.v (.int .i64 a)] [.own 82 [rrC B s1]]) (g1 : Fn Tryz.prog 31 [.own 82 [rrC B s1]] [.ptr 0 0 0 0] [.v (.int .i64 b)] [.own 82 [rrC B s2]])
    (g2 : Fn Tryz.prog 31 [.own 82 [rrC B s2]] [.ptr 0 0 0 0] [.v (.int .i64 c)] [.own 82 [rrC B s3]]) : Fn Tryz.prog 30 [.own 82 [rrC B s0]] [.ptr 0 0 0 0] [.agg (⟨a, b, c⟩ : Plate).av] [.own 82 [rrC B s3]] := by
  refine Spec.body Tryz.func30 rfl Tryz.ntmps30 (by simp) rfl ?_; intro S0 own0 v0 w0 gl
  (refine AW.seq_k ?_; intro K hK)
  refine AW.region ?_
  refine awJ (op_alloc rfl ze30 rfl) ?_; (simp only [nA, Nat.reduceBEq, Nat.reduceEqDiff, ↓reduceIte])
  refine AWL.nil ?_
  (refine hK _ ?_; clear hK K; (try simp only [nA, Nat.reduceBEq, Nat.reduceEqDiff, ↓reduceIte, Nat.reduceAdd, Nat.reduceSub]))
  (refine AW.seq_k ?_; intro K hK)
  refine AW.region ?_
  refine awP (op_move rfl rfl) ?_; (simp only [nA, ↓reduceIte])
  refine awJ (op_call1 rfl en31 g0 (by exact rfl) (RL.cons .ptr (RL.nil)) (by exact ⟨_, _, _, rfl, rfl, rfl⟩) (by exact rfl) (by exact rfl) (by exact rfl)) ?_; (try simp only [nA, Nat.reduceBEq, Nat.reduceEqDiff, ↓reduceIte, Nat.reduceAdd, Nat.reduceSub])
  refine awP (op_move rfl rfl) ?_; (simp only [nA, ↓reduceIte])
  refine awJ (op_call1 rfl en31 g1 (by exact rfl) (RL.cons .ptr (RL.nil)) (by exact ⟨_, _, _, rfl, rfl, rfl⟩) (by exact rfl) (by exact rfl) (by exact rfl)) ?_; (try simp only [nA, Nat.reduceBEq, Nat.reduceEqDiff, ↓reduceIte, Nat.reduceAdd, Nat.reduceSub])
  refine awP (op_move rfl rfl) ?_; (simp only [nA, ↓reduceIte])
  refine awJ (op_call1 rfl en31 g2 (by exact rfl) (RL.cons .ptr (RL.nil)) (by exact ⟨_, _, _, rfl, rfl, rfl⟩) (by exact rfl) (by exact rfl) (by exact rfl)) ?_; (try simp only [nA, Nat.reduceBEq, Nat.reduceEqDiff, ↓reduceIte, Nat.reduceAdd, Nat.reduceSub])
  refine awP (op_assign rfl rfl) ?_; (simp only [nA, ↓reduceIte])
  refine awP (op_assign rfl rfl) ?_; (simp only [nA, ↓reduceIte])
  refine awP (op_assign rfl rfl) ?_; (simp only [nA, ↓reduceIte])
  refine AWL.nil ?_
  (refine hK _ ?_; clear hK K; (skip))
  (refine AW.seq_k ?_; intro K hK)
  refine AW.region ?_
  refine awP (op_move rfl rfl) ?_; (simp only [nA, ↓reduceIte])
  refine awP (op_move rfl rfl) ?_; (simp only [nA, ↓reduceIte])
  refine awP (op_move rfl rfl) ?_; (simp only [nA, ↓reduceIte])
  refine awP (op_build2 (xs := [_, _, _]) rfl pl30 ze30 [(0, [_]), (1, [_]), (2, [_])] rfl rfl rfl) ?_; (simp only [nA, ↓reduceIte])
  refine awJ (op_store rfl rfl rfl rfl rfl rfl sz30 rfl (bl rfl) rfl) ?_; (simp only [nA, Nat.reduceBEq, Nat.reduceEqDiff, ↓reduceIte])
  refine AWL.nil ?_
  (refine hK _ ?_; clear hK K; (skip))
  skip
  refine AW.ret ?_; (try simp only [thenE, inBlk, Nat.reduceEqDiff, ↓reduceIte]); exact RQ.of (.inl rfl) rfl (.cell (bl rfl) rfl rfl rfl ag30 sz30 (bl rfl) rfl rfl .nil) (by simp) rfl (one_out rfl)
set_option maxHeartbeats 8000000 in
theorem C33v {B : BL} {s0 s1 s2 s3 s4 : RS} {a c : ByteArray} {b d : Int} (g0 : Fn Tryz.prog 29 [.own 82 [rrC B s0]] [.ptr 0 0 0 0] [.v (.string a)] [.own 82 [rrC B s1]]) (g1 : Fn Tryz.prog 31 [.own 82 [rrC B s1]] [.ptr 0 0 0 0] [.v (.int .i64 b)] [.own 82 [rrC B s2]])
    (g2 : Fn Tryz.prog 29 [.own 82 [rrC B s2]] [.ptr 0 0 0 0] [.v (.string c)] [.own 82 [rrC B s3]]) (g3 : Fn Tryz.prog 31 [.own 82 [rrC B s3]] [.ptr 0 0 0 0] [.v (.int .i64 d)] [.own 82 [rrC B s4]]) :
    Fn Tryz.prog 33 [.own 82 [rrC B s0]] [.ptr 0 0 0 0] [.agg (⟨a, b, c, d⟩ : Flight).av] [.own 82 [rrC B s4]] := by
  refine Spec.body Tryz.func33 rfl Tryz.ntmps33 (by simp) rfl ?_; intro S0 own0 v0 w0 gl
  (refine AW.seq_k ?_; intro K hK)
  refine AW.region ?_
  refine awJ (op_alloc rfl ze33 rfl) ?_; (simp only [nA, Nat.reduceBEq, Nat.reduceEqDiff, ↓reduceIte])
  refine AWL.nil ?_
  (refine hK _ ?_; clear hK K; (try simp only [nA, Nat.reduceBEq, Nat.reduceEqDiff, ↓reduceIte, Nat.reduceAdd, Nat.reduceSub]))
  (refine AW.seq_k ?_; intro K hK)
  refine AW.region ?_
  refine awJ (op_alloc rfl ze33 rfl) ?_; (simp only [nA, Nat.reduceBEq, Nat.reduceEqDiff, ↓reduceIte])
  refine AWL.nil ?_
  (refine hK _ ?_; clear hK K; (skip))
  (refine AW.seq_k ?_; intro K hK)
  refine AW.region ?_
  refine awP (op_move rfl rfl) ?_; (simp only [nA, ↓reduceIte])
  refine awJ (op_call1 rfl en29 g0 (by exact rfl) (RL.cons .ptr (RL.nil)) (by exact ⟨_, _, _, rfl, rfl, rfl⟩) (by exact rfl) (by exact rfl) (by exact rfl)) ?_; (try simp only [nA, Nat.reduceBEq, Nat.reduceEqDiff, ↓reduceIte, Nat.reduceAdd, Nat.reduceSub])
  (refine awP (op_fa_ptr rfl rfl rfl fl33_0 (by exact sz9) (by decide) rfl) ?_); (try simp only [nA, Nat.reduceBEq, Nat.reduceEqDiff, ↓reduceIte, Nat.reduceAdd, Nat.reduceSub])
  refine awJ (op_store rfl rfl rfl rfl rfl rfl sz9 rfl (bl rfl) rfl) ?_; (simp only [nA, ↓reduceIte])
  refine AWL.nil ?_
  (refine hK _ ?_; clear hK K; (skip))
  (refine AW.seq_k ?_; intro K hK)
  refine AW.region ?_
  refine awP (op_move rfl rfl) ?_; (simp only [nA, ↓reduceIte])
  refine awJ (op_call1 rfl en31 g1 (by exact rfl) (RL.cons .ptr (RL.nil)) (by exact ⟨_, _, _, rfl, rfl, rfl⟩) (by exact rfl) (by exact rfl) (by exact rfl)) ?_; (try simp only [nA, Nat.reduceBEq, Nat.reduceEqDiff, ↓reduceIte, Nat.reduceAdd, Nat.reduceSub])
  (refine awP (op_fa_ptr rfl rfl rfl fl33_1 (by exact sz3) (by decide) rfl) ?_); (try simp only [nA, Nat.reduceBEq, Nat.reduceEqDiff, ↓reduceIte, Nat.reduceAdd, Nat.reduceSub])
  refine awJ (op_store rfl rfl rfl rfl rfl rfl sz3 rfl (bl rfl) rfl) ?_; (simp only [nA, ↓reduceIte])
  refine AWL.nil ?_
  (refine hK _ ?_; clear hK K; (skip))
  (refine AW.seq_k ?_; intro K hK)
  refine AW.region ?_
  refine awP (op_move rfl rfl) ?_; (simp only [nA, ↓reduceIte])
  refine awJ (op_call1 rfl en29 g2 (by exact rfl) (RL.cons .ptr (RL.nil)) (by exact ⟨_, _, _, rfl, rfl, rfl⟩) (by exact rfl) (by exact rfl) (by exact rfl)) ?_; (try simp only [nA, Nat.reduceBEq, Nat.reduceEqDiff, ↓reduceIte, Nat.reduceAdd, Nat.reduceSub])
  (refine awP (op_fa_ptr rfl rfl rfl fl33_2 (by exact sz9) (by decide) rfl) ?_); (try simp only [nA, Nat.reduceBEq, Nat.reduceEqDiff, ↓reduceIte, Nat.reduceAdd, Nat.reduceSub])
  refine awJ (op_store rfl rfl rfl rfl rfl rfl sz9 rfl (bl rfl) rfl) ?_; (simp only [nA, ↓reduceIte])
  refine AWL.nil ?_
  (refine hK _ ?_; clear hK K; (skip))
  (refine AW.seq_k ?_; intro K hK)
  refine AW.region ?_
  refine awP (op_move rfl rfl) ?_; (simp only [nA, ↓reduceIte])
  refine awJ (op_call1 rfl en31 g3 (by exact rfl) (RL.cons .ptr (RL.nil)) (by exact ⟨_, _, _, rfl, rfl, rfl⟩) (by exact rfl) (by exact rfl) (by exact rfl)) ?_; (try simp only [nA, Nat.reduceBEq, Nat.reduceEqDiff, ↓reduceIte, Nat.reduceAdd, Nat.reduceSub])
  (refine awP (op_fa_ptr rfl rfl rfl fl33_3 (by exact sz3) (by decide) rfl) ?_); (try simp only [nA, Nat.reduceBEq, Nat.reduceEqDiff, ↓reduceIte, Nat.reduceAdd, Nat.reduceSub])
  refine awJ (op_store rfl rfl rfl rfl rfl rfl sz3 rfl (bl rfl) rfl) ?_; (simp only [nA, ↓reduceIte])
  refine AWL.nil ?_
  (refine hK _ ?_; clear hK K; (skip))
  (refine AW.seq_k ?_; intro K hK)
  refine AW.region ?_
  (refine awR (op_load_ptr rfl rfl rfl rfl ag33 sz33 (bl rfl) rfl) ?_); (try simp only [nA, Nat.reduceBEq, Nat.reduceEqDiff, ↓reduceIte, Nat.reduceAdd, Nat.reduceSub])
  refine awJ (op_store rfl rfl rfl rfl rfl rfl sz33 rfl (bl rfl) rfl) ?_; (simp only [nA, Nat.reduceBEq, Nat.reduceEqDiff, ↓reduceIte])
  refine AWL.nil ?_
  (refine hK _ ?_; clear hK K; (skip))
  skip
  refine AW.ret ?_; (try simp only [thenE, inBlk, Nat.reduceEqDiff, ↓reduceIte]); exact RQ.of (.inl rfl) rfl (.cell (bl rfl) rfl rfl rfl ag33 sz33 (bl rfl) rfl rfl .nil) (by simp) rfl (one_out rfl)
set_option maxHeartbeats 8000000 in
theorem C34v {B : BL} {s0 s1 s2 s3 s4 s5 s6 s7 s8 : RS} {a b c d e w k : Int} {p : Plate} (g0 : Fn Tryz.prog 31 [.own 82 [rrC B s0]] [.ptr 0 0 0 0] [.v (.int .i64 a)] [.own 82 [rrC B s1]]) (g1 : Fn Tryz.prog 31 [.own 82 [rrC B s1]] [.ptr 0 0 0 0] [.v (.int .i64 b)] [.own 82 [rrC B s2]])
    (g2 : Fn Tryz.prog 31 [.own 82 [rrC B s2]] [.ptr 0 0 0 0] [.v (.int .i64 c)] [.own 82 [rrC B s3]]) (g3 : Fn Tryz.prog 31 [.own 82 [rrC B s3]] [.ptr 0 0 0 0] [.v (.int .i64 d)] [.own 82 [rrC B s4]]) (g4 : Fn Tryz.prog 31 [.own 82 [rrC B s4]] [.ptr 0 0 0 0] [.v (.int .i64 e)] [.own 82 [rrC B s5]])
    (g5 : Fn Tryz.prog 30 [.own 82 [rrC B s5]] [.ptr 0 0 0 0] [.agg p.av] [.own 82 [rrC B s6]]) (g6 : Fn Tryz.prog 31 [.own 82 [rrC B s6]] [.ptr 0 0 0 0] [.v (.int .i64 w)] [.own 82 [rrC B s7]]) (g7 : Fn Tryz.prog 31 [.own 82 [rrC B s7]] [.ptr 0 0 0 0] [.v (.int .i64 k)] [.own 82 [rrC B s8]]) :
    Fn Tryz.prog 34 [.own 82 [rrC B s0]] [.ptr 0 0 0 0] [.agg (⟨a, b, c, d, e, ⟨p, w, k⟩⟩ : Op).av] [.own 82 [rrC B s8]] := by
  refine Spec.body Tryz.func34 rfl Tryz.ntmps34 (by simp) rfl ?_; intro S0 own0 v0 w0 gl
  (refine AW.seq_k ?_; intro K hK)
  refine AW.region ?_
  refine awJ (op_alloc rfl ze39 rfl) ?_; (simp only [nA, Nat.reduceBEq, Nat.reduceEqDiff, ↓reduceIte])
  refine AWL.nil ?_
  (refine hK _ ?_; clear hK K; (try simp only [nA, Nat.reduceBEq, Nat.reduceEqDiff, ↓reduceIte, Nat.reduceAdd, Nat.reduceSub]))
  (refine AW.seq_k ?_; intro K hK)
  refine AW.region ?_
  refine awJ (op_alloc rfl ze39 rfl) ?_; (simp only [nA, Nat.reduceBEq, Nat.reduceEqDiff, ↓reduceIte])
  refine AWL.nil ?_
  (refine hK _ ?_; clear hK K; (skip))
  (refine AW.seq_k ?_; intro K hK)
  refine AW.region ?_
  refine awP (op_move rfl rfl) ?_; (simp only [nA, ↓reduceIte])
  refine awJ (op_call1 rfl en31 g0 (by exact rfl) (RL.cons .ptr (RL.nil)) (by exact ⟨_, _, _, rfl, rfl, rfl⟩) (by exact rfl) (by exact rfl) (by exact rfl)) ?_; (try simp only [nA, Nat.reduceBEq, Nat.reduceEqDiff, ↓reduceIte, Nat.reduceAdd, Nat.reduceSub])
  (refine awP (op_fa_ptr rfl rfl rfl fl39_0 (by exact sz3) (by decide) rfl) ?_); (try simp only [nA, Nat.reduceBEq, Nat.reduceEqDiff, ↓reduceIte, Nat.reduceAdd, Nat.reduceSub])
  refine awJ (op_store rfl rfl rfl rfl rfl rfl sz3 rfl (bl rfl) rfl) ?_; (simp only [nA, ↓reduceIte])
  refine AWL.nil ?_
  (refine hK _ ?_; clear hK K; (skip))
  (refine AW.seq_k ?_; intro K hK)
  refine AW.region ?_
  refine awP (op_move rfl rfl) ?_; (simp only [nA, ↓reduceIte])
  refine awJ (op_call1 rfl en31 g1 (by exact rfl) (RL.cons .ptr (RL.nil)) (by exact ⟨_, _, _, rfl, rfl, rfl⟩) (by exact rfl) (by exact rfl) (by exact rfl)) ?_; (try simp only [nA, Nat.reduceBEq, Nat.reduceEqDiff, ↓reduceIte, Nat.reduceAdd, Nat.reduceSub])
  (refine awP (op_fa_ptr rfl rfl rfl fl39_1 (by exact sz3) (by decide) rfl) ?_); (try simp only [nA, Nat.reduceBEq, Nat.reduceEqDiff, ↓reduceIte, Nat.reduceAdd, Nat.reduceSub])
  refine awJ (op_store rfl rfl rfl rfl rfl rfl sz3 rfl (bl rfl) rfl) ?_; (simp only [nA, ↓reduceIte])
  refine AWL.nil ?_
  (refine hK _ ?_; clear hK K; (skip))
  (refine AW.seq_k ?_; intro K hK)
  refine AW.region ?_
  refine awP (op_move rfl rfl) ?_; (simp only [nA, ↓reduceIte])
  refine awJ (op_call1 rfl en31 g2 (by exact rfl) (RL.cons .ptr (RL.nil)) (by exact ⟨_, _, _, rfl, rfl, rfl⟩) (by exact rfl) (by exact rfl) (by exact rfl)) ?_; (try simp only [nA, Nat.reduceBEq, Nat.reduceEqDiff, ↓reduceIte, Nat.reduceAdd, Nat.reduceSub])
  (refine awP (op_fa_ptr rfl rfl rfl fl39_2 (by exact sz3) (by decide) rfl) ?_); (try simp only [nA, Nat.reduceBEq, Nat.reduceEqDiff, ↓reduceIte, Nat.reduceAdd, Nat.reduceSub])
  refine awJ (op_store rfl rfl rfl rfl rfl rfl sz3 rfl (bl rfl) rfl) ?_; (simp only [nA, ↓reduceIte])
  refine AWL.nil ?_
  (refine hK _ ?_; clear hK K; (skip))
  (refine AW.seq_k ?_; intro K hK)
  refine AW.region ?_
  refine awP (op_move rfl rfl) ?_; (simp only [nA, ↓reduceIte])
  refine awJ (op_call1 rfl en31 g3 (by exact rfl) (RL.cons .ptr (RL.nil)) (by exact ⟨_, _, _, rfl, rfl, rfl⟩) (by exact rfl) (by exact rfl) (by exact rfl)) ?_; (try simp only [nA, Nat.reduceBEq, Nat.reduceEqDiff, ↓reduceIte, Nat.reduceAdd, Nat.reduceSub])
  (refine awP (op_fa_ptr rfl rfl rfl fl39_3 (by exact sz3) (by decide) rfl) ?_); (try simp only [nA, Nat.reduceBEq, Nat.reduceEqDiff, ↓reduceIte, Nat.reduceAdd, Nat.reduceSub])
  refine awJ (op_store rfl rfl rfl rfl rfl rfl sz3 rfl (bl rfl) rfl) ?_; (simp only [nA, ↓reduceIte])
  refine AWL.nil ?_
  (refine hK _ ?_; clear hK K; (skip))
  (refine AW.seq_k ?_; intro K hK)
  refine AW.region ?_
  refine awP (op_move rfl rfl) ?_; (simp only [nA, ↓reduceIte])
  refine awJ (op_call1 rfl en31 g4 (by exact rfl) (RL.cons .ptr (RL.nil)) (by exact ⟨_, _, _, rfl, rfl, rfl⟩) (by exact rfl) (by exact rfl) (by exact rfl)) ?_; (try simp only [nA, Nat.reduceBEq, Nat.reduceEqDiff, ↓reduceIte, Nat.reduceAdd, Nat.reduceSub])
  (refine awP (op_fa_ptr rfl rfl rfl fl39_4 (by exact sz3) (by decide) rfl) ?_); (try simp only [nA, Nat.reduceBEq, Nat.reduceEqDiff, ↓reduceIte, Nat.reduceAdd, Nat.reduceSub])
  refine awJ (op_store rfl rfl rfl rfl rfl rfl sz3 rfl (bl rfl) rfl) ?_; (simp only [nA, ↓reduceIte])
  refine AWL.nil ?_
  (refine hK _ ?_; clear hK K; (skip))
  (refine AW.seq_k ?_; intro K hK)
  refine AW.region ?_
  refine awP (op_move rfl rfl) ?_; (simp only [nA, ↓reduceIte])
  refine awJ (op_call1 rfl en30 g5 (by exact rfl) (RL.cons .ptr (RL.nil)) (by exact ⟨_, _, _, rfl, rfl, rfl⟩) (by exact rfl) (by exact rfl) (by exact rfl)) ?_; (try simp only [nA, Nat.reduceBEq, Nat.reduceEqDiff, ↓reduceIte, Nat.reduceAdd, Nat.reduceSub])
  (refine awP (op_fa_ptr rfl rfl rfl fl39_5 (by exact sz37) (by decide) rfl) ?_); (try simp only [nA, Nat.reduceBEq, Nat.reduceEqDiff, ↓reduceIte, Nat.reduceAdd, Nat.reduceSub])
  (refine awP (op_fa_ptr rfl rfl rfl fl37_0 (by exact sz30) (by decide) rfl) ?_); (simp only [nA, Nat.reduceBEq, Nat.reduceEqDiff, ↓reduceIte])
  refine awJ (op_store rfl rfl rfl rfl rfl rfl sz30 rfl (bl rfl) rfl) ?_; (try simp only [nA, Nat.reduceBEq, Nat.reduceEqDiff, ↓reduceIte, Nat.reduceAdd, Nat.reduceSub])
  refine AWL.nil ?_
  (refine hK _ ?_; clear hK K; (skip))
  (refine AW.seq_k ?_; intro K hK)
  refine AW.region ?_
  refine awP (op_move rfl rfl) ?_; (simp only [nA, ↓reduceIte])
  refine awJ (op_call1 rfl en31 g6 (by exact rfl) (RL.cons .ptr (RL.nil)) (by exact ⟨_, _, _, rfl, rfl, rfl⟩) (by exact rfl) (by exact rfl) (by exact rfl)) ?_; (try simp only [nA, Nat.reduceBEq, Nat.reduceEqDiff, ↓reduceIte, Nat.reduceAdd, Nat.reduceSub])
  (refine awP (op_fa_ptr rfl rfl rfl fl39_5 (by exact sz37) (by decide) rfl) ?_); (try simp only [nA, Nat.reduceBEq, Nat.reduceEqDiff, ↓reduceIte, Nat.reduceAdd, Nat.reduceSub])
  (refine awP (op_fa_ptr rfl rfl rfl fl37_1 (by exact sz3) (by decide) rfl) ?_); (simp only [nA, Nat.reduceBEq, Nat.reduceEqDiff, ↓reduceIte])
  refine awJ (op_store rfl rfl rfl rfl rfl rfl sz3 rfl (bl rfl) rfl) ?_; (simp only [nA, ↓reduceIte])
  refine AWL.nil ?_
  (refine hK _ ?_; clear hK K; (skip))
  (refine AW.seq_k ?_; intro K hK)
  refine AW.region ?_
  refine awP (op_move rfl rfl) ?_; (simp only [nA, ↓reduceIte])
  refine awJ (op_call1 rfl en31 g7 (by exact rfl) (RL.cons .ptr (RL.nil)) (by exact ⟨_, _, _, rfl, rfl, rfl⟩) (by exact rfl) (by exact rfl) (by exact rfl)) ?_; (try simp only [nA, Nat.reduceBEq, Nat.reduceEqDiff, ↓reduceIte, Nat.reduceAdd, Nat.reduceSub])
  (refine awP (op_fa_ptr rfl rfl rfl fl39_5 (by exact sz37) (by decide) rfl) ?_); (try simp only [nA, Nat.reduceBEq, Nat.reduceEqDiff, ↓reduceIte, Nat.reduceAdd, Nat.reduceSub])
  (refine awP (op_fa_ptr rfl rfl rfl fl37_2 (by exact sz3) (by decide) rfl) ?_); (simp only [nA, Nat.reduceBEq, Nat.reduceEqDiff, ↓reduceIte])
  refine awJ (op_store rfl rfl rfl rfl rfl rfl sz3 rfl (bl rfl) rfl) ?_; (simp only [nA, ↓reduceIte])
  refine AWL.nil ?_
  (refine hK _ ?_; clear hK K; (skip))
  (refine AW.seq_k ?_; intro K hK)
  refine AW.region ?_
  (refine awR (op_load_ptr rfl rfl rfl rfl ag39 sz39 (bl rfl) rfl) ?_); (try simp only [nA, Nat.reduceBEq, Nat.reduceEqDiff, ↓reduceIte, Nat.reduceAdd, Nat.reduceSub])
  refine awJ (op_store rfl rfl rfl rfl rfl rfl sz39 rfl (bl rfl) rfl) ?_; (simp only [nA, Nat.reduceBEq, Nat.reduceEqDiff, ↓reduceIte])
  refine AWL.nil ?_
  (refine hK _ ?_; clear hK K; (skip))
  skip
  refine AW.ret ?_; (try simp only [thenE, inBlk, Nat.reduceEqDiff, ↓reduceIte]); exact RQ.of (.inl rfl) rfl (.cell (bl rfl) rfl rfl rfl ag39 sz39 (bl rfl) rfl rfl .nil) (by simp) rfl (one_out rfl)
theorem plM_eq (R : Rdr) (s : RS) : plM R s = (⟨(R.num s).1, (R.num (R.num s).2).1, (R.num (R.num (R.num s).2).2).1⟩, (R.num (R.num (R.num s).2).2).2) := rfl
theorem flM_eq (R : Rdr) (s : RS) : flM R s = (⟨(R.wd s).1, (R.num (R.wd s).2).1, (R.wd (R.num (R.wd s).2).2).1, (R.num (R.wd (R.num (R.wd s).2).2).2).1⟩, (R.num (R.wd (R.num (R.wd s).2).2).2).2) := rfl
def o5 (R : Rdr) (s : RS) : RS := (R.num (R.num (R.num (R.num (R.num s).2).2).2).2).2
theorem opM_eq (R : Rdr) (s : RS) : opM R s = (⟨(R.num s).1, (R.num (R.num s).2).1, (R.num (R.num (R.num s).2).2).1, (R.num (R.num (R.num (R.num s).2).2).2).1, (R.num (R.num (R.num (R.num (R.num s).2).2).2).2).1, ⟨(plM R (o5 R s)).1, (R.num (plM R (o5 R s)).2).1, (R.num (R.num (plM R (o5 R s)).2).2).1⟩⟩, (R.num (R.num (plM R (o5 R s)).2).2).2) := rfl
structure RdOk (R : Rdr) (B : BL) : Prop where
  n31 : ∀ {s : RS}, s.b <:+ B → Fn Tryz.prog 31 [.own 82 [rrC B s]] [.ptr 0 0 0 0] [.v (.int .i64 (R.num s).1)] [.own 82 [rrC B (R.num s).2]]
  t32 : ∀ {s : RS}, s.b <:+ B → Fn Tryz.prog 32 [.own 82 [rrC B s]] [.ptr 0 0 0 0] [.v (.bool (R.tr s).1)] [.own 82 [rrC B (R.tr s).2]]
  w29 : ∀ {s : RS}, s.b <:+ B → Fn Tryz.prog 29 [.own 82 [rrC B s]] [.ptr 0 0 0 0] [.v (.string (R.wd s).1)] [.own 82 [rrC B (R.wd s).2]]
  sN : ∀ {s : RS}, s.b <:+ B → (R.num s).2.b <:+ B
  sT : ∀ {s : RS}, s.b <:+ B → (R.tr s).2.b <:+ B
  sW : ∀ {s : RS}, s.b <:+ B → (R.wd s).2.b <:+ B
  nn : ∀ s : RS, 0 ≤ (R.num s).1
  top : ∀ s : RS, (R.num s).1.toNat ≤ 4294967296
theorem numR_nn (s : RS) : 0 ≤ (rR.num s).1 := by show 0 ≤ (numR s).1; rw [numR_eq]; exact Int.natCast_nonneg _
theorem numR_top (s : RS) : (rR.num s).1.toNat ≤ 4294967296 := by
  show (numR s).1.toNat ≤ _
  rw [numR_eq]
  have := numN_lt s
  rw [Int.toNat_natCast]; omega
theorem rR_rd {B : BL} (hB : B.length ≤ 1000000) : RdOk rR B := ⟨fun h => D31r hB h, fun h => D32r hB h, fun h => D29r hB h, fun h => suNr h, fun h => suTr h, fun h => suWr h, numR_nn, numR_top⟩
section
variable {R : Rdr} {B : BL} {s : RS}
theorem D31 (H : RdOk R B) (hs : s.b <:+ B) : Fn Tryz.prog 31 [.own 82 [rrC B s]] [.ptr 0 0 0 0] [.v (.int .i64 (R.num s).1)] [.own 82 [rrC B (R.num s).2]] := H.n31 hs
theorem D32 (H : RdOk R B) (hs : s.b <:+ B) : Fn Tryz.prog 32 [.own 82 [rrC B s]] [.ptr 0 0 0 0] [.v (.bool (R.tr s).1)] [.own 82 [rrC B (R.tr s).2]] := H.t32 hs
theorem D29 (H : RdOk R B) (hs : s.b <:+ B) : Fn Tryz.prog 29 [.own 82 [rrC B s]] [.ptr 0 0 0 0] [.v (.string (R.wd s).1)] [.own 82 [rrC B (R.wd s).2]] := H.w29 hs
theorem suN (H : RdOk R B) (hs : s.b <:+ B) : (R.num s).2.b <:+ B := H.sN hs
theorem suT (H : RdOk R B) (hs : s.b <:+ B) : (R.tr s).2.b <:+ B := H.sT hs
theorem suW (H : RdOk R B) (hs : s.b <:+ B) : (R.wd s).2.b <:+ B := H.sW hs
theorem suP (H : RdOk R B) (hs : s.b <:+ B) : (plM R s).2.b <:+ B := by rw [plM_eq]; exact suN H (suN H (suN H hs))
theorem suF (H : RdOk R B) (hs : s.b <:+ B) : (flM R s).2.b <:+ B := by rw [flM_eq]; exact suN H (suW H (suN H (suW H hs)))
theorem su5 (H : RdOk R B) (hs : s.b <:+ B) : (o5 R s).b <:+ B := suN H (suN H (suN H (suN H (suN H hs))))
theorem suO (H : RdOk R B) (hs : s.b <:+ B) : (opM R s).2.b <:+ B := by rw [opM_eq]; exact suN H (suN H (suP H (su5 H hs)))
theorem D30 (H : RdOk R B) (hs : s.b <:+ B) : Fn Tryz.prog 30 [.own 82 [rrC B s]] [.ptr 0 0 0 0] [.agg (plM R s).1.av] [.own 82 [rrC B (plM R s).2]] := by
  rw [plM_eq]; exact C30v (D31 H hs) (D31 H (suN H hs)) (D31 H (suN H (suN H hs)))
theorem D33 (H : RdOk R B) (hs : s.b <:+ B) : Fn Tryz.prog 33 [.own 82 [rrC B s]] [.ptr 0 0 0 0] [.agg (flM R s).1.av] [.own 82 [rrC B (flM R s).2]] := by
  rw [flM_eq]; exact C33v (D29 H hs) (D31 H (suW H hs)) (D29 H (suN H (suW H hs))) (D31 H (suW H (suN H (suW H hs))))
theorem D34 (H : RdOk R B) (hs : s.b <:+ B) : Fn Tryz.prog 34 [.own 82 [rrC B s]] [.ptr 0 0 0 0] [.agg (opM R s).1.av] [.own 82 [rrC B (opM R s).2]] := by
  rw [opM_eq]; exact C34v (D31 H hs) (D31 H (suN H hs)) (D31 H (suN H (suN H hs))) (D31 H (suN H (suN H (suN H hs)))) (D31 H (suN H (suN H (suN H (suN H hs))))) (D30 H (su5 H hs)) (D31 H (suP H (su5 H hs))) (D31 H (suN H (suP H (su5 H hs))))
end
end Go.Proofs.YtfmnaigedgmhoaaGreatDoor
namespace Go.Proofs.YtfmnaigedgmhoaaGreatDoor
open Go.RowKit
set_option linter.unusedSimpArgs false
set_option linter.unusedVariables false
set_option maxRecDepth 100000
set_option maxHeartbeats 8000000 in
theorem C41v {x : Ev} {rs os : AV} {s0 s1 : RS} {n : Int} (g0 : Fn Tryz.prog 62 [.own 73 [rdC x rs os s0]] [.ptr 0 0 0 0] [.v (.int .i64 n)] [.own 73 [rdC x rs os s1]]) : Fn Tryz.prog 41 [.own 73 [rdC x rs os s0]] [.ptr 0 0 0 0] [] [.own 73 [rdC { x with time := n } rs os s1]] := by
  refine Spec.body Tryz.func41 rfl Tryz.ntmps41 (by simp) rfl ?_; intro S0 own0 v0 w0 gl
  refine AW.region ?_
  refine awP (op_move rfl rfl) ?_; (try simp only [nA, Nat.reduceBEq, Nat.reduceEqDiff, ↓reduceIte, Nat.reduceAdd, Nat.reduceSub])
  refine awP (op_move rfl rfl) ?_; (simp only [nA, ↓reduceIte])
  refine awJ (op_call1 rfl en62 g0 (by exact rfl) (RL.cons .ptr (RL.nil)) (by exact ⟨_, _, _, rfl, rfl, rfl⟩) (by exact rfl) (by exact rfl) (by exact rfl)) ?_; (try simp only [nA, Nat.reduceBEq, Nat.reduceEqDiff, ↓reduceIte, Nat.reduceAdd, Nat.reduceSub])
  (refine awP (op_nil_slot rfl rfl rfl) ?_); (try simp only [nA, Nat.reduceBEq, Nat.reduceEqDiff, ↓reduceIte, Nat.reduceAdd, Nat.reduceSub])
  (refine awP (op_fa_ptr rfl rfl rfl fl73_1 (by exact sz42) (by decide) rfl) ?_); (try simp only [nA, Nat.reduceBEq, Nat.reduceEqDiff, ↓reduceIte, Nat.reduceAdd, Nat.reduceSub])
  (refine awP (op_fa_ptr rfl rfl rfl fl42_1 (by exact sz3) (by decide) rfl) ?_); (simp only [nA, Nat.reduceBEq, Nat.reduceEqDiff, ↓reduceIte])
  refine awJ (op_store rfl rfl rfl rfl rfl rfl sz3 rfl (bl rfl) rfl) ?_; (simp only [nA, ↓reduceIte])
  refine AWL.nil ?_
  -- END
  exact RQ.of (.inr rfl) rfl .nil (by simp) rfl (one_out rfl)
set_option maxHeartbeats 8000000 in
theorem C42v {x : Ev} {rs os : AV} {s0 s1 : RS} {n : ByteArray} (g0 : Fn Tryz.prog 63 [.own 73 [rdC x rs os s0]] [.ptr 0 0 0 0] [.v (.string n)] [.own 73 [rdC x rs os s1]]) : Fn Tryz.prog 42 [.own 73 [rdC x rs os s0]] [.ptr 0 0 0 0] [] [.own 73 [rdC { x with text := n } rs os s1]] := by
  refine Spec.body Tryz.func42 rfl Tryz.ntmps42 (by simp) rfl ?_; intro S0 own0 v0 w0 gl
  refine AW.region ?_
  refine awP (op_move rfl rfl) ?_; (try simp only [nA, Nat.reduceBEq, Nat.reduceEqDiff, ↓reduceIte, Nat.reduceAdd, Nat.reduceSub])
  refine awP (op_move rfl rfl) ?_; (simp only [nA, ↓reduceIte])
  refine awJ (op_call1 rfl en63 g0 (by exact rfl) (RL.cons .ptr (RL.nil)) (by exact ⟨_, _, _, rfl, rfl, rfl⟩) (by exact rfl) (by exact rfl) (by exact rfl)) ?_; (try simp only [nA, Nat.reduceBEq, Nat.reduceEqDiff, ↓reduceIte, Nat.reduceAdd, Nat.reduceSub])
  (refine awP (op_nil_slot rfl rfl rfl) ?_); (try simp only [nA, Nat.reduceBEq, Nat.reduceEqDiff, ↓reduceIte, Nat.reduceAdd, Nat.reduceSub])
  (refine awP (op_fa_ptr rfl rfl rfl fl73_1 (by exact sz42) (by decide) rfl) ?_); (try simp only [nA, Nat.reduceBEq, Nat.reduceEqDiff, ↓reduceIte, Nat.reduceAdd, Nat.reduceSub])
  (refine awP (op_fa_ptr rfl rfl rfl fl42_2 (by exact sz9) (by decide) rfl) ?_); (simp only [nA, Nat.reduceBEq, Nat.reduceEqDiff, ↓reduceIte])
  refine awJ (op_store rfl rfl rfl rfl rfl rfl sz9 rfl (bl rfl) rfl) ?_; (simp only [nA, ↓reduceIte])
  refine AWL.nil ?_
  -- END
  exact RQ.of (.inr rfl) rfl .nil (by simp) rfl (one_out rfl)
set_option maxHeartbeats 8000000 in
theorem C43v {x : Ev} {rs os : AV} {s0 s1 : RS} {n : Plate} (g0 : Fn Tryz.prog 64 [.own 73 [rdC x rs os s0]] [.ptr 0 0 0 0] [.agg n.av] [.own 73 [rdC x rs os s1]]) : Fn Tryz.prog 43 [.own 73 [rdC x rs os s0]] [.ptr 0 0 0 0] [] [.own 73 [rdC { x with plate := n } rs os s1]] := by
  refine Spec.body Tryz.func43 rfl Tryz.ntmps43 (by simp) rfl ?_; intro S0 own0 v0 w0 gl
  refine AW.region ?_
  refine awP (op_move rfl rfl) ?_; (try simp only [nA, Nat.reduceBEq, Nat.reduceEqDiff, ↓reduceIte, Nat.reduceAdd, Nat.reduceSub])
  refine awP (op_move rfl rfl) ?_; (simp only [nA, ↓reduceIte])
  refine awJ (op_call1 rfl en64 g0 (by exact rfl) (RL.cons .ptr (RL.nil)) (by exact ⟨_, _, _, rfl, rfl, rfl⟩) (by exact rfl) (by exact rfl) (by exact rfl)) ?_; (try simp only [nA, Nat.reduceBEq, Nat.reduceEqDiff, ↓reduceIte, Nat.reduceAdd, Nat.reduceSub])
  (refine awP (op_nil_slot rfl rfl rfl) ?_); (try simp only [nA, Nat.reduceBEq, Nat.reduceEqDiff, ↓reduceIte, Nat.reduceAdd, Nat.reduceSub])
  (refine awP (op_fa_ptr rfl rfl rfl fl73_1 (by exact sz42) (by decide) rfl) ?_); (try simp only [nA, Nat.reduceBEq, Nat.reduceEqDiff, ↓reduceIte, Nat.reduceAdd, Nat.reduceSub])
  (refine awP (op_fa_ptr rfl rfl rfl fl42_3 (by exact sz30) (by decide) rfl) ?_); (simp only [nA, Nat.reduceBEq, Nat.reduceEqDiff, ↓reduceIte])
  refine awJ (op_store rfl rfl rfl rfl rfl rfl sz30 rfl (bl rfl) rfl) ?_; (try simp only [nA, Nat.reduceBEq, Nat.reduceEqDiff, ↓reduceIte, Nat.reduceAdd, Nat.reduceSub])
  refine AWL.nil ?_
  -- END
  exact RQ.of (.inr rfl) rfl .nil (by simp) rfl (one_out rfl)
set_option maxHeartbeats 8000000 in
theorem C44v {x : Ev} {rs os : AV} {s0 s1 : RS} {n : Int} (g0 : Fn Tryz.prog 62 [.own 73 [rdC x rs os s0]] [.ptr 0 0 0 0] [.v (.int .i64 n)] [.own 73 [rdC x rs os s1]]) : Fn Tryz.prog 44 [.own 73 [rdC x rs os s0]] [.ptr 0 0 0 0] [] [.own 73 [rdC { x with node := n } rs os s1]] := by
  refine Spec.body Tryz.func44 rfl Tryz.ntmps44 (by simp) rfl ?_; intro S0 own0 v0 w0 gl
  refine AW.region ?_
  refine awP (op_move rfl rfl) ?_; (try simp only [nA, Nat.reduceBEq, Nat.reduceEqDiff, ↓reduceIte, Nat.reduceAdd, Nat.reduceSub])
  refine awP (op_move rfl rfl) ?_; (simp only [nA, ↓reduceIte])
  refine awJ (op_call1 rfl en62 g0 (by exact rfl) (RL.cons .ptr (RL.nil)) (by exact ⟨_, _, _, rfl, rfl, rfl⟩) (by exact rfl) (by exact rfl) (by exact rfl)) ?_; (try simp only [nA, Nat.reduceBEq, Nat.reduceEqDiff, ↓reduceIte, Nat.reduceAdd, Nat.reduceSub])
  (refine awP (op_nil_slot rfl rfl rfl) ?_); (try simp only [nA, Nat.reduceBEq, Nat.reduceEqDiff, ↓reduceIte, Nat.reduceAdd, Nat.reduceSub])
  (refine awP (op_fa_ptr rfl rfl rfl fl73_1 (by exact sz42) (by decide) rfl) ?_); (try simp only [nA, Nat.reduceBEq, Nat.reduceEqDiff, ↓reduceIte, Nat.reduceAdd, Nat.reduceSub])
  (refine awP (op_fa_ptr rfl rfl rfl fl42_4 (by exact sz3) (by decide) rfl) ?_); (simp only [nA, Nat.reduceBEq, Nat.reduceEqDiff, ↓reduceIte])
  refine awJ (op_store rfl rfl rfl rfl rfl rfl sz3 rfl (bl rfl) rfl) ?_; (simp only [nA, ↓reduceIte])
  refine AWL.nil ?_
  -- END
  exact RQ.of (.inr rfl) rfl .nil (by simp) rfl (one_out rfl)
set_option maxHeartbeats 8000000 in
theorem C45v {x : Ev} {rs os : AV} {s0 s1 : RS} {n : Int} (g0 : Fn Tryz.prog 62 [.own 73 [rdC x rs os s0]] [.ptr 0 0 0 0] [.v (.int .i64 n)] [.own 73 [rdC x rs os s1]]) : Fn Tryz.prog 45 [.own 73 [rdC x rs os s0]] [.ptr 0 0 0 0] [] [.own 73 [rdC { x with image := n } rs os s1]] := by
  refine Spec.body Tryz.func45 rfl Tryz.ntmps45 (by simp) rfl ?_; intro S0 own0 v0 w0 gl
  refine AW.region ?_
  refine awP (op_move rfl rfl) ?_; (try simp only [nA, Nat.reduceBEq, Nat.reduceEqDiff, ↓reduceIte, Nat.reduceAdd, Nat.reduceSub])
  refine awP (op_move rfl rfl) ?_; (simp only [nA, ↓reduceIte])
  refine awJ (op_call1 rfl en62 g0 (by exact rfl) (RL.cons .ptr (RL.nil)) (by exact ⟨_, _, _, rfl, rfl, rfl⟩) (by exact rfl) (by exact rfl) (by exact rfl)) ?_; (try simp only [nA, Nat.reduceBEq, Nat.reduceEqDiff, ↓reduceIte, Nat.reduceAdd, Nat.reduceSub])
  (refine awP (op_nil_slot rfl rfl rfl) ?_); (try simp only [nA, Nat.reduceBEq, Nat.reduceEqDiff, ↓reduceIte, Nat.reduceAdd, Nat.reduceSub])
  (refine awP (op_fa_ptr rfl rfl rfl fl73_1 (by exact sz42) (by decide) rfl) ?_); (try simp only [nA, Nat.reduceBEq, Nat.reduceEqDiff, ↓reduceIte, Nat.reduceAdd, Nat.reduceSub])
  (refine awP (op_fa_ptr rfl rfl rfl fl42_5 (by exact sz3) (by decide) rfl) ?_); (simp only [nA, Nat.reduceBEq, Nat.reduceEqDiff, ↓reduceIte])
  refine awJ (op_store rfl rfl rfl rfl rfl rfl sz3 rfl (bl rfl) rfl) ?_; (simp only [nA, ↓reduceIte])
  refine AWL.nil ?_
  -- END
  exact RQ.of (.inr rfl) rfl .nil (by simp) rfl (one_out rfl)
set_option maxHeartbeats 8000000 in
theorem C46v {x : Ev} {rs os : AV} {s0 s1 : RS} {n : Bool} (g0 : Fn Tryz.prog 65 [.own 73 [rdC x rs os s0]] [.ptr 0 0 0 0] [.v (.bool n)] [.own 73 [rdC x rs os s1]]) : Fn Tryz.prog 46 [.own 73 [rdC x rs os s0]] [.ptr 0 0 0 0] [] [.own 73 [rdC { x with clear := n } rs os s1]] := by
  refine Spec.body Tryz.func46 rfl Tryz.ntmps46 (by simp) rfl ?_; intro S0 own0 v0 w0 gl
  refine AW.region ?_
  refine awP (op_move rfl rfl) ?_; (try simp only [nA, Nat.reduceBEq, Nat.reduceEqDiff, ↓reduceIte, Nat.reduceAdd, Nat.reduceSub])
  refine awP (op_move rfl rfl) ?_; (simp only [nA, ↓reduceIte])
  refine awJ (op_call1 rfl en65 g0 (by exact rfl) (RL.cons .ptr (RL.nil)) (by exact ⟨_, _, _, rfl, rfl, rfl⟩) (by exact rfl) (by exact rfl) (by exact rfl)) ?_; (try simp only [nA, Nat.reduceBEq, Nat.reduceEqDiff, ↓reduceIte, Nat.reduceAdd, Nat.reduceSub])
  (refine awP (op_nil_slot rfl rfl rfl) ?_); (try simp only [nA, Nat.reduceBEq, Nat.reduceEqDiff, ↓reduceIte, Nat.reduceAdd, Nat.reduceSub])
  (refine awP (op_fa_ptr rfl rfl rfl fl73_1 (by exact sz42) (by decide) rfl) ?_); (try simp only [nA, Nat.reduceBEq, Nat.reduceEqDiff, ↓reduceIte, Nat.reduceAdd, Nat.reduceSub])
  (refine awP (op_fa_ptr rfl rfl rfl fl42_6 (by exact sz4) (by decide) rfl) ?_); (simp only [nA, Nat.reduceBEq, Nat.reduceEqDiff, ↓reduceIte])
  refine awJ (op_store rfl rfl rfl rfl rfl rfl sz4 rfl (bl rfl) rfl) ?_; (simp only [nA, ↓reduceIte])
  refine AWL.nil ?_
  -- END
  exact RQ.of (.inr rfl) rfl .nil (by simp) rfl (one_out rfl)
set_option maxHeartbeats 8000000 in
theorem C49v {x : Ev} {rs os : AV} {s0 s1 : RS} {n : Int} (g0 : Fn Tryz.prog 62 [.own 73 [rdC x rs os s0]] [.ptr 0 0 0 0] [.v (.int .i64 n)] [.own 73 [rdC x rs os s1]]) : Fn Tryz.prog 49 [.own 73 [rdC x rs os s0]] [.ptr 0 0 0 0] [] [.own 73 [rdC { x with device := n } rs os s1]] := by
  refine Spec.body Tryz.func49 rfl Tryz.ntmps49 (by simp) rfl ?_; intro S0 own0 v0 w0 gl
  refine AW.region ?_
  refine awP (op_move rfl rfl) ?_; (try simp only [nA, Nat.reduceBEq, Nat.reduceEqDiff, ↓reduceIte, Nat.reduceAdd, Nat.reduceSub])
  refine awP (op_move rfl rfl) ?_; (simp only [nA, ↓reduceIte])
  refine awJ (op_call1 rfl en62 g0 (by exact rfl) (RL.cons .ptr (RL.nil)) (by exact ⟨_, _, _, rfl, rfl, rfl⟩) (by exact rfl) (by exact rfl) (by exact rfl)) ?_; (try simp only [nA, Nat.reduceBEq, Nat.reduceEqDiff, ↓reduceIte, Nat.reduceAdd, Nat.reduceSub])
  (refine awP (op_nil_slot rfl rfl rfl) ?_); (try simp only [nA, Nat.reduceBEq, Nat.reduceEqDiff, ↓reduceIte, Nat.reduceAdd, Nat.reduceSub])
  (refine awP (op_fa_ptr rfl rfl rfl fl73_1 (by exact sz42) (by decide) rfl) ?_); (try simp only [nA, Nat.reduceBEq, Nat.reduceEqDiff, ↓reduceIte, Nat.reduceAdd, Nat.reduceSub])
  (refine awP (op_fa_ptr rfl rfl rfl fl42_9 (by exact sz3) (by decide) rfl) ?_); (simp only [nA, Nat.reduceBEq, Nat.reduceEqDiff, ↓reduceIte])
  refine awJ (op_store rfl rfl rfl rfl rfl rfl sz3 rfl (bl rfl) rfl) ?_; (simp only [nA, ↓reduceIte])
  refine AWL.nil ?_
  -- END
  exact RQ.of (.inr rfl) rfl .nil (by simp) rfl (one_out rfl)
set_option maxHeartbeats 8000000 in
theorem C50v {x : Ev} {rs os : AV} {s0 s1 : RS} {n : Op} (g0 : Fn Tryz.prog 67 [.own 73 [rdC x rs os s0]] [.ptr 0 0 0 0] [.agg n.av] [.own 73 [rdC x rs os s1]]) : Fn Tryz.prog 50 [.own 73 [rdC x rs os s0]] [.ptr 0 0 0 0] [] [.own 73 [rdC { x with op := n } rs os s1]] := by
  refine Spec.body Tryz.func50 rfl Tryz.ntmps50 (by simp) rfl ?_; intro S0 own0 v0 w0 gl
  refine AW.region ?_
  refine awP (op_move rfl rfl) ?_; (try simp only [nA, Nat.reduceBEq, Nat.reduceEqDiff, ↓reduceIte, Nat.reduceAdd, Nat.reduceSub])
  refine awP (op_move rfl rfl) ?_; (simp only [nA, ↓reduceIte])
  refine awJ (op_call1 rfl en67 g0 (by exact rfl) (RL.cons .ptr (RL.nil)) (by exact ⟨_, _, _, rfl, rfl, rfl⟩) (by exact rfl) (by exact rfl) (by exact rfl)) ?_; (try simp only [nA, Nat.reduceBEq, Nat.reduceEqDiff, ↓reduceIte, Nat.reduceAdd, Nat.reduceSub])
  (refine awP (op_nil_slot rfl rfl rfl) ?_); (try simp only [nA, Nat.reduceBEq, Nat.reduceEqDiff, ↓reduceIte, Nat.reduceAdd, Nat.reduceSub])
  (refine awP (op_fa_ptr rfl rfl rfl fl73_1 (by exact sz42) (by decide) rfl) ?_); (try simp only [nA, Nat.reduceBEq, Nat.reduceEqDiff, ↓reduceIte, Nat.reduceAdd, Nat.reduceSub])
  (refine awP (op_fa_ptr rfl rfl rfl fl42_10 (by exact sz39) (by decide) rfl) ?_); (simp only [nA, Nat.reduceBEq, Nat.reduceEqDiff, ↓reduceIte])
  refine awJ (op_store rfl rfl rfl rfl rfl rfl sz39 rfl (bl rfl) rfl) ?_; (try simp only [nA, Nat.reduceBEq, Nat.reduceEqDiff, ↓reduceIte, Nat.reduceAdd, Nat.reduceSub])
  refine AWL.nil ?_
  -- END
  exact RQ.of (.inr rfl) rfl .nil (by simp) rfl (one_out rfl)
set_option maxHeartbeats 8000000 in
theorem C52v {x : Ev} {rs os : AV} {s0 s1 : RS} {n : Flight} (g0 : Fn Tryz.prog 66 [.own 73 [rdC x rs os s0]] [.ptr 0 0 0 0] [.agg n.av] [.own 73 [rdC x rs os s1]]) : Fn Tryz.prog 52 [.own 73 [rdC x rs os s0]] [.ptr 0 0 0 0] [] [.own 73 [rdC { x with fl := n } rs os s1]] := by
  refine Spec.body Tryz.func52 rfl Tryz.ntmps52 (by simp) rfl ?_; intro S0 own0 v0 w0 gl
  refine AW.region ?_
  refine awP (op_move rfl rfl) ?_; (try simp only [nA, Nat.reduceBEq, Nat.reduceEqDiff, ↓reduceIte, Nat.reduceAdd, Nat.reduceSub])
  refine awP (op_move rfl rfl) ?_; (simp only [nA, ↓reduceIte])
  refine awJ (op_call1 rfl en66 g0 (by exact rfl) (RL.cons .ptr (RL.nil)) (by exact ⟨_, _, _, rfl, rfl, rfl⟩) (by exact rfl) (by exact rfl) (by exact rfl)) ?_; (try simp only [nA, Nat.reduceBEq, Nat.reduceEqDiff, ↓reduceIte, Nat.reduceAdd, Nat.reduceSub])
  (refine awP (op_nil_slot rfl rfl rfl) ?_); (try simp only [nA, Nat.reduceBEq, Nat.reduceEqDiff, ↓reduceIte, Nat.reduceAdd, Nat.reduceSub])
  (refine awP (op_fa_ptr rfl rfl rfl fl73_1 (by exact sz42) (by decide) rfl) ?_); (try simp only [nA, Nat.reduceBEq, Nat.reduceEqDiff, ↓reduceIte, Nat.reduceAdd, Nat.reduceSub])
  (refine awP (op_fa_ptr rfl rfl rfl fl42_12 (by exact sz33) (by decide) rfl) ?_); (simp only [nA, Nat.reduceBEq, Nat.reduceEqDiff, ↓reduceIte])
  refine awJ (op_store rfl rfl rfl rfl rfl rfl sz33 rfl (bl rfl) rfl) ?_; (try simp only [nA, Nat.reduceBEq, Nat.reduceEqDiff, ↓reduceIte, Nat.reduceAdd, Nat.reduceSub])
  refine AWL.nil ?_
  -- END
  exact RQ.of (.inr rfl) rfl .nil (by simp) rfl (one_out rfl)
set_option maxHeartbeats 8000000 in
theorem C48v {x : Ev} {rs os : AV} {s0 s1 s2 s3 : RS} {a b : Int} {f : Flight} (g0 : Fn Tryz.prog 62 [.own 73 [rdC x rs os s0]] [.ptr 0 0 0 0] [.v (.int .i64 a)] [.own 73 [rdC x rs os s1]]) (g1 : Fn Tryz.prog 62 [.own 73 [rdC x rs os s1]] [.ptr 0 0 0 0] [.v (.int .i64 b)] [.own 73 [rdC x rs os s2]]) (g2 : Fn Tryz.prog 66 [.own 73 [rdC x rs os s2]] [.ptr 0 0 0 0] [.agg f.av] [.own 73 [rdC x rs os s3]]) : Fn Tryz.prog 48 [.own 73 [rdC x rs os s0]] [.ptr 0 0 0 0] [] [.own 73 [rdC { x with rev := ⟨a, b, f⟩ } rs os s3]] := by
  refine Spec.body Tryz.func48 rfl Tryz.ntmps48 (by simp) rfl ?_; intro S0 own0 v0 w0 gl
  refine AW.region ?_
  refine awP (op_move rfl rfl) ?_; (try simp only [nA, Nat.reduceBEq, Nat.reduceEqDiff, ↓reduceIte, Nat.reduceAdd, Nat.reduceSub])
  refine awP (op_move rfl rfl) ?_; (simp only [nA, ↓reduceIte])
  refine awJ (op_call1 rfl en62 g0 (by exact rfl) (RL.cons .ptr (RL.nil)) (by exact ⟨_, _, _, rfl, rfl, rfl⟩) (by exact rfl) (by exact rfl) (by exact rfl)) ?_; (try simp only [nA, Nat.reduceBEq, Nat.reduceEqDiff, ↓reduceIte, Nat.reduceAdd, Nat.reduceSub])
  refine awP (op_move rfl rfl) ?_; (simp only [nA, ↓reduceIte])
  refine awJ (op_call1 rfl en62 g1 (by exact rfl) (RL.cons .ptr (RL.nil)) (by exact ⟨_, _, _, rfl, rfl, rfl⟩) (by exact rfl) (by exact rfl) (by exact rfl)) ?_; (try simp only [nA, Nat.reduceBEq, Nat.reduceEqDiff, ↓reduceIte, Nat.reduceAdd, Nat.reduceSub])
  refine awP (op_move rfl rfl) ?_; (simp only [nA, ↓reduceIte])
  refine awJ (op_call1 rfl en66 g2 (by exact rfl) (RL.cons .ptr (RL.nil)) (by exact ⟨_, _, _, rfl, rfl, rfl⟩) (by exact rfl) (by exact rfl) (by exact rfl)) ?_; (try simp only [nA, Nat.reduceBEq, Nat.reduceEqDiff, ↓reduceIte, Nat.reduceAdd, Nat.reduceSub])
  refine awP (op_build2 (xs := [_, _, _, _, _, _]) rfl pl35 ze35 [(0, [_]), (1, [_]), (2, [_, _, _, _])] rfl rfl rfl) ?_; (simp only [nA, ↓reduceIte])
  (refine awP (op_nil_slot rfl rfl rfl) ?_); (try simp only [nA, Nat.reduceBEq, Nat.reduceEqDiff, ↓reduceIte, Nat.reduceAdd, Nat.reduceSub])
  (refine awP (op_fa_ptr rfl rfl rfl fl73_1 (by exact sz42) (by decide) rfl) ?_); (try simp only [nA, Nat.reduceBEq, Nat.reduceEqDiff, ↓reduceIte, Nat.reduceAdd, Nat.reduceSub])
  (refine awP (op_fa_ptr rfl rfl rfl fl42_8 (by exact sz35) (by decide) rfl) ?_); (simp only [nA, Nat.reduceBEq, Nat.reduceEqDiff, ↓reduceIte])
  refine awJ (op_store rfl rfl rfl rfl rfl rfl sz35 rfl (bl rfl) rfl) ?_; (try simp only [nA, Nat.reduceBEq, Nat.reduceEqDiff, ↓reduceIte, Nat.reduceAdd, Nat.reduceSub])
  refine AWL.nil ?_
  -- END
  exact RQ.of (.inr rfl) rfl .nil (by simp) rfl (one_out rfl)
end Go.Proofs.YtfmnaigedgmhoaaGreatDoor
namespace Go.Proofs.YtfmnaigedgmhoaaGreatDoor
open Go.RowKit
set_option linter.unusedSimpArgs false
set_option linter.unusedVariables false
set_option maxRecDepth 100000
theorem rp_flat (ls : List Report) : ∀ r ∈ ls.map Report.av, ∀ c ∈ r, flatA c = true := fun r hr c hc => by
  obtain ⟨l, _, rfl⟩ := List.mem_map.1 hr
  simp only [Report.av, List.mem_cons, List.not_mem_nil, or_false] at hc
  rcases hc with rfl | rfl | rfl <;> rfl
theorem rep_bad {α : Type} {m : M α} {k : Nat} {acc : List α} {s : RS} (h : s.bad = true) : repM m k acc s = (acc, s) := by
  cases k with
  | zero => rfl
  | succ k => exact if_pos h
theorem rep_step {α : Type} {m : M α} {k : Nat} {acc : List α} {s : RS} (h : s.bad = false) : repM m (k + 1) acc s = repM m k (acc ++ [(m s).1]) (m s).2 := by
  show (if s.bad = true then (acc, s) else _) = _
  rw [if_neg (by rw [h]; decide)]
theorem num_used {s : RS} (h : (numE s).2.bad = false) : s.bad = false ∧ (numE s).2.b.length + 4 = s.b.length := by
  obtain ⟨b, bad⟩ := s
  match bad, b with
  | false, a :: b :: c :: d :: r => exact ⟨rfl, rfl⟩
  | true, b => exact absurd (show true = false from h) (by decide)
  | false, [] => exact absurd (show true = false from h) (by decide)
  | false, [_] => exact absurd (show true = false from h) (by decide)
  | false, [_, _] => exact absurd (show true = false from h) (by decide)
  | false, [_, _, _] => exact absurd (show true = false from h) (by decide)
theorem tr_used {s : RS} (h : (trE s).2.bad = false) : s.bad = false := by
  obtain ⟨b, bad⟩ := s
  match bad, b with
  | false, b => rfl
  | true, b => exact absurd (show true = false from h) (by decide)
theorem wd_used {s : RS} (h : (wdE s).2.bad = false) : s.bad = false := by
  cases hb : s.bad with
  | false => rfl
  | true => exact absurd (h.symm.trans ((sim_num.bind sim_tk s).1 hb)) (by decide)
theorem rp_used {s : RS} (h : (rpM rE s).2.bad = false) : (rpM rE s).2.b.length + 4 ≤ s.b.length := by
  have h1 := wd_used (s := (trE (numE s).2).2) h
  have h2 := tr_used h1
  have h3 := (num_used h2).2
  have h4 := wdE_len (trE (numE s).2).2
  have h5 := trE_len (numE s).2
  show (wdE (trE (numE s).2).2).2.b.length + 4 ≤ _
  omega
theorem rp_le (s : RS) : (rpM rE s).2.b.length ≤ s.b.length := Nat.le_trans (wdE_len _) (Nat.le_trans (trE_len _) (numE_len s))
end Go.Proofs.YtfmnaigedgmhoaaGreatDoor
namespace Go.Proofs.YtfmnaigedgmhoaaGreatDoor
open Go.RowKit
set_option linter.unusedSimpArgs false
set_option linter.unusedVariables false
set_option maxRecDepth 100000
theorem numE_top (s : RS) : (numE s).1.toNat ≤ 4294967296 := by
  unfold numE
  split
  · exact Int.toNat_le.2 (Int.le_of_lt (n4_lt _ _ _ _).2)
  exact Nat.zero_le _
set_option maxHeartbeats 8000000 in
theorem C47 {x : Ev} {os : AV} {s : RS} (hl : s.b.length ≤ 1000000) : Fn Tryz.prog 47 [.own 73 [rdC x (.own 60 []) os s]] [.ptr 0 0 0 0] [] [.own 73 [rdC x (.own 60 ((lsM rE (rpM rE) [] s).1.map Report.av)) os (lsM rE (rpM rE) [] s).2]] := by
  refine Spec.body Tryz.func47 rfl Tryz.ntmps47 (by simp) rfl ?_; intro S0 own0 v0 w0 gl
  (refine AW.seq_k ?_; intro K hK)
  refine AW.region ?_
  refine awP (op_move rfl rfl) ?_; (try simp only [nA, Nat.reduceBEq, Nat.reduceEqDiff, ↓reduceIte, Nat.reduceAdd, Nat.reduceSub])
  refine awJ (op_call1 rfl en62 (C62 (x := x) (rs := .own 60 []) (os := os) (s := s) hl) (by exact rfl) (RL.cons .ptr (RL.nil)) (by exact ⟨_, _, _, rfl, rfl, rfl⟩) (by exact rfl) (by exact rfl) (by exact rfl)) ?_; (try simp only [nA, Nat.reduceBEq, Nat.reduceEqDiff, ↓reduceIte, Nat.reduceAdd, Nat.reduceSub])
  refine awP (op_assign rfl rfl) ?_; (simp only [nA])
  refine AWL.nil ?_
  (refine hK _ ?_; clear hK K; (try simp only [nA, Nat.reduceBEq, Nat.reduceEqDiff, ↓reduceIte, Nat.reduceAdd, Nat.reduceSub]))
  refine AW.block ?_
  have hnn := numE_nn s; refine AW.loopI (fun (q : Nat × List Report × RS × Nat) => [(0, .ptr 0 0 0 0), (2, .v (.int .i64 (q.1 : Nat)))]) (fun q => ⟨[(0, .own 73 [rdC x (.own 60 (q.2.1.map Report.av)) os q.2.2.1])], q.2.2.2⟩) (fun q => repM (rpM rE) q.1 q.2.1 q.2.2.1 = repM (rpM rE) (numE s).1.toNat [] (numE s).2 ∧ q.2.1.length + q.2.2.1.b.length ≤ 1000001 ∧ (q.2.2.1.bad = false → q.2.1.length + q.2.2.1.b.length ≤ 1000000) ∧ q.1 ≤ 4294967296) (fun q => q.1) ((numE s).1.toNat, [], (numE s).2, _) ⟨rfl, by have := numE_len s; simp; omega, fun _ => by have := numE_len s; simp; omega, numE_top s⟩ ⟨rfl, by dsimp only; rw [Int.toNat_of_nonneg hnn]; rfl, trivial⟩ rfl ?_; rintro ⟨k, acc, t, ep⟩ ρ ⟨hR, hB1, hB2, hk⟩; dsimp only at hR hB1 hB2 hk ⊢; simp only [updL]
  (refine AW.seq_k ?_; intro K hK)
  (refine AW.seq_k ?_; intro K hK)
  refine AW.region (AWL.quiet ?_)
  refine aqP (op_move rfl rfl) ?_; (simp only [nA, ↓reduceIte])
  refine aqP (op_gtr rfl rfl rfl) ?_; (try simp only [nA, Nat.reduceBEq, Nat.reduceEqDiff, ↓reduceIte, Nat.reduceAdd, Nat.reduceSub])
  refine aqP (op_move rfl rfl) ?_; (simp only [nA])
  refine' aqAnd' [_, _, _, _, _] [8,9,10,11,12] rfl rfl rfl rfl rfl rfl rfl rfl rfl rfl rfl rfl (fun hb => ?_) ?_; rotate_left
  ·
   (try simp only [hcS] at hb)
   refine aqP (op_move rfl rfl) ?_; (simp only [nA, ↓reduceIte])
   (refine aqP (op_nil_slot rfl rfl rfl) ?_); (try simp only [nA, Nat.reduceBEq, Nat.reduceEqDiff, ↓reduceIte, Nat.reduceAdd, Nat.reduceSub])
   (refine aqP (op_fa_ptr rfl rfl rfl fl73_2 (by exact sz4) (by decide) rfl) ?_); (try simp only [nA, Nat.reduceBEq, Nat.reduceEqDiff, ↓reduceIte, Nat.reduceAdd, Nat.reduceSub])
   (refine aqR (op_load_ptr1 rfl rfl rfl rfl ag4 rfl rfl) ?_); (try simp only [nA, Nat.reduceBEq, Nat.reduceEqDiff, ↓reduceIte, Nat.reduceAdd, Nat.reduceSub])
   refine aqP (op_not rfl rfl rfl) ?_; (try simp only [nA, Nat.reduceBEq, Nat.reduceEqDiff, ↓reduceIte, Nat.reduceAdd, Nat.reduceSub])
   (refine aqSeg rfl rfl rfl ?_; repeat (first | exact fun _ _ => rfl | refine upd_out rfl ?_))
  refine AQ.nil ?_
  (refine hK _ ?_; clear hK K; (skip))
  refine AW.cond rfl rfl rfl (fun hc => ?_) (fun hc => ?_)
  ·
   have hc1 := hc; obtain ⟨hk0, hb0⟩ : 0 < k ∧ t.bad = false := (by cases hbb : t.bad <;> rw [hbb] at hc1 <;> simp at hc1 <;> exact ⟨by omega, rfl⟩); obtain ⟨k, rfl⟩ : ∃ k', k = k' + 1 := ⟨k - 1, by omega⟩; rw [rep_step hb0] at hR; have hB := hB2 hb0; have hlt : t.b.length ≤ 1000000 := (by omega)
   refine AW.skip ?_
   (refine hK _ ?_; clear hK K; (skip))
   (refine AW.seq_k ?_; intro K hK)
   refine AW.block ?_
   refine AW.ghE (GhE.unnest (r := 0) (row := rdC x (.own 60 (acc.map Report.av)) os t) 0 10 rfl rfl rfl) ?_; intro u hu; (try simp only [nA, Nat.reduceBEq, Nat.reduceEqDiff, ↓reduceIte, Nat.reduceAdd, Nat.reduceSub])
   have g0 := C62 (x := x) (rs := .v u) (os := os) (s := t) hlt
   have g1 := C65 (x := x) (rs := .v u) (os := os) (s := (numE t).2) (len1 hlt)
   have g2 := C63 (x := x) (rs := .v u) (os := os) (s := (trE (numE t).2).2) (len3 (len1 hlt))
   have hle := rp_le t
   have hus := rp_used (s := t)
   have hr : rpM rE t = (⟨(numE t).1, (trE (numE t).2).1, (wdE (trE (numE t).2).2).1⟩, (wdE (trE (numE t).2).2).2) := rfl
   generalize numE t = p1 at g0 g1 g2 hr
   generalize trE p1.2 = p2 at g1 g2 hr
   generalize wdE p2.2 = p3 at g2 hr
   rw [hr] at hR hle hus
   refine AW.aeo (fun T' => ∃ t', T'.slots[0]? = some (0, .own 73 [rdC x (.v u) os t'])) mix rfl ?_
   refine aePo 0 rfl (fun T' ok => op_move rfl rfl) ⟨_, rfl⟩ (by kernel_rfl) (by kernel_rfl) ?_; (simp only [nA, Nat.reduceBEq, Nat.reduceEqDiff, ↓reduceIte])
   refine aePo 1 rfl (fun T' ok => op_move rfl rfl) ⟨_, rfl⟩ (by kernel_rfl) (by kernel_rfl) ?_; (simp only [nA, Nat.reduceEqDiff, ↓reduceIte])
   refine aePo 2 rfl (fun T' ok => ok.elim fun t' ok => op_nil_slot rfl rfl ok) ⟨_, rfl⟩ (by kernel_rfl) (by kernel_rfl) ?_; (try simp only [nA, Nat.reduceBEq, Nat.reduceEqDiff, ↓reduceIte, Nat.reduceAdd, Nat.reduceSub])
   refine aePo 3 rfl (fun T' ok => ok.elim fun t' ok => op_fa_ptr rfl rfl ok fl73_1 (by exact sz42) (by decide) rfl) ⟨_, rfl⟩ (by kernel_rfl) (by kernel_rfl) ?_; (try simp only [nA, Nat.reduceBEq, Nat.reduceEqDiff, ↓reduceIte, Nat.reduceAdd, Nat.reduceSub])
   refine aePo 4 rfl (fun T' ok => ok.elim fun t' ok => op_fa_ptr rfl rfl ok fl42_7 (by exact sz31) (by decide) rfl) ⟨_, rfl⟩ (by kernel_rfl) (by kernel_rfl) ?_; (simp only [nA, Nat.reduceBEq, Nat.reduceEqDiff, ↓reduceIte])
   refine aeRo 5 rfl (fun T' ok => ok.elim fun t' ok => op_load_ptr1 (row := rdC x (.v u) os t') rfl rfl ok rfl ag31 rfl rfl) ⟨_, rfl⟩ (by kernel_rfl) (by kernel_rfl) ?_; (try simp only [nA, Nat.reduceBEq, Nat.reduceEqDiff, ↓reduceIte, Nat.reduceAdd, Nat.reduceSub])
   refine aePo 6 rfl (fun T' ok => op_move rfl rfl) ⟨_, rfl⟩ (by kernel_rfl) (by kernel_rfl) ?_; (simp only [nA, Nat.reduceEqDiff, ↓reduceIte])
   refine aePo 8 rfl (fun T' ok => op_move rfl rfl) ⟨_, rfl⟩ (by kernel_rfl) (by kernel_rfl) ?_; (simp only [nA, Nat.reduceEqDiff, ↓reduceIte])
   refine aePo 10 rfl (fun T' ok => op_move rfl rfl) ⟨_, rfl⟩ (by kernel_rfl) (by kernel_rfl) ?_; (simp only [nA, Nat.reduceEqDiff, ↓reduceIte])
   refine aeJo 7 rfl (op_call1 rfl en62 g0 (by exact rfl) (RL.cons .ptr (RL.nil)) (by exact ⟨_, _, _, rfl, rfl, rfl⟩) (by exact rfl) (by exact rfl) (by exact rfl)) (by kernel_rfl) ⟨_, rfl⟩ ?_; (try simp only [nA, Nat.reduceBEq, Nat.reduceEqDiff, ↓reduceIte, Nat.reduceAdd, Nat.reduceSub])
   refine aeJo 9 rfl (op_call1 rfl en65 g1 (by exact rfl) (RL.cons .ptr (RL.nil)) (by exact ⟨_, _, _, rfl, rfl, rfl⟩) (by exact rfl) (by exact rfl) (by exact rfl)) (by kernel_rfl) ⟨_, rfl⟩ ?_; (try simp only [nA, Nat.reduceBEq, Nat.reduceEqDiff, ↓reduceIte, Nat.reduceAdd, Nat.reduceSub])
   refine aeJo 11 rfl (op_call1 rfl en63 g2 (by exact rfl) (RL.cons .ptr (RL.nil)) (by exact ⟨_, _, _, rfl, rfl, rfl⟩) (by exact rfl) (by exact rfl) (by exact rfl)) (by kernel_rfl) ⟨_, rfl⟩ ?_; (try simp only [nA, Nat.reduceBEq, Nat.reduceEqDiff, ↓reduceIte, Nat.reduceAdd, Nat.reduceSub])
   refine aePo 12 rfl (fun T' ok => op_build2 (xs := [_, _, _]) rfl pl60 ze60 [(0, [_]), (1, [_]), (2, [_])] rfl rfl rfl) ⟨_, rfl⟩ (by kernel_rfl) (by kernel_rfl) ?_; (simp only [nA, ↓reduceIte])
   refine aeJo 13 rfl (OpJ.frz (op_buildSlice rfl [(0, (⟨p1.1, p2.1, p3.1⟩ : Report).av)] [(⟨p1.1, p2.1, p3.1⟩ : Report).av] Tryz.underlying31 ze60 rfl (by simp) rfl (by simp) rfl (bl rfl) (by simp [maxLen])) (rp_flat [⟨p1.1, p2.1, p3.1⟩]) rfl) (by kernel_rfl) ⟨_, rfl⟩ ?_; (try simp only [nA, Nat.reduceBEq, Nat.reduceEqDiff, ↓reduceIte, Nat.reduceAdd, Nat.reduceSub])
   refine aeJo 14 rfl (OpJ.nm (t := 21) (r := 1) rfl rfl (op_app (rows := [(⟨p1.1, p2.1, p3.1⟩ : Report).av]) rfl rfl rfl rfl (by simp) .ro Tryz.underlying31 ze60 (by decide) (by simp) (by simp; omega) (by decide) (es' := (acc ++ [(⟨p1.1, p2.1, p3.1⟩ : Report)]).map Report.av) (by simp) (n := (acc ++ [(⟨p1.1, p2.1, p3.1⟩ : Report)]).length) (by simp))) (by kernel_rfl) ⟨_, rfl⟩ ?_; (try simp only [nA, Nat.reduceBEq, Nat.reduceEqDiff, ↓reduceIte, Nat.reduceAdd, Nat.reduceSub])
   refine aePo 15 rfl (fun T' ok => ok.elim fun t' ok => op_nil_slot rfl rfl ok) ⟨_, rfl⟩ (by kernel_rfl) (by kernel_rfl) ?_; (try simp only [nA, Nat.reduceBEq, Nat.reduceEqDiff, ↓reduceIte, Nat.reduceAdd, Nat.reduceSub])
   refine aePo 16 rfl (fun T' ok => ok.elim fun t' ok => op_fa_ptr rfl rfl ok fl73_1 (by exact sz42) (by decide) rfl) ⟨_, rfl⟩ (by kernel_rfl) (by kernel_rfl) ?_; (try simp only [nA, Nat.reduceBEq, Nat.reduceEqDiff, ↓reduceIte, Nat.reduceAdd, Nat.reduceSub])
   refine aePo 17 rfl (fun T' ok => ok.elim fun t' ok => op_fa_ptr rfl rfl ok fl42_7 (by exact sz31) (by decide) rfl) ⟨_, rfl⟩ (by kernel_rfl) (by kernel_rfl) ?_; (simp only [nA, Nat.reduceBEq, Nat.reduceEqDiff, ↓reduceIte])
   refine aeLo 18 rfl (op_store_nest (r := 0) (q := 1) rfl rfl rfl rfl (row := rdC x (.v u) os p3.2) rfl sz31 rfl (by decide) (by simp) (by simp) (es2 := [rdC x (.own 60 ((acc ++ [(⟨p1.1, p2.1, p3.1⟩ : Report)]).map Report.av)) os p3.2]) rfl) (by kernel_rfl) (by kernel_rfl) ?_; (try simp only [nA, Nat.reduceBEq, Nat.reduceEqDiff, ↓reduceIte, Nat.reduceAdd, Nat.reduceSub])
   refine aeDoneo (by kernel_rfl) ?_
   (try simp only [thenE, inBlk, Nat.reduceEqDiff, ↓reduceIte])
   (refine hK _ ?_; clear hK K; (skip))
   refine AW.region ?_
   refine awP (op_move rfl rfl) ?_; (simp only [nA, Nat.reduceEqDiff, ↓reduceIte])
   (refine awP (op_subi rfl rfl rfl (by omega)) ?_); (try simp only [nA, Nat.reduceBEq, Nat.reduceEqDiff, ↓reduceIte, Nat.reduceAdd, Nat.reduceSub])
   refine awP (op_assign rfl rfl) ?_; (simp only [nA])
   refine AWL.gh (Gh.drop 1) ?_; (try simp only [nA, Nat.reduceBEq, Nat.reduceEqDiff, ↓reduceIte, Nat.reduceAdd, Nat.reduceSub])
   refine AWL.nil ?_
   refine ⟨(k, acc ++ [(⟨p1.1, p2.1, p3.1⟩ : Report)], p3.2, _), ⟨hR, by dsimp only at hle ⊢; rw [List.length_append]; simp only [List.length_cons, List.length_nil]; omega, fun h => by have := hus h; dsimp only at this ⊢; rw [List.length_append]; simp only [List.length_cons, List.length_nil]; omega, by dsimp only; omega⟩, by dsimp only; omega, ⟨rfl, by dsimp only; exact congrArg (fun z => AV.v (.int .i64 z)) (by omega), trivial⟩, (by rfl), (by rfl)⟩
  have hc1 := hc; have hE : repM (rpM rE) k acc t = (acc, t) := (by cases hbb : t.bad with | true => exact rep_bad hbb | false => (have h0 : k = 0 := (by rw [hbb] at hc1; simp at hc1; omega); subst h0; rfl)); rw [hE] at hR
  refine AW.exit ?_; (try simp only [thenE, inBlk, Nat.reduceEqDiff, ↓reduceIte])
  clear hK K
  show RQ _ _ _ _ _ _; rw [show lsM rE (rpM rE) [] s = (acc, t) from hR.symm]; exact RQ.of (.inr rfl) rfl .nil (by simp) rfl (one_out rfl)
end Go.Proofs.YtfmnaigedgmhoaaGreatDoor
namespace Go.Proofs.YtfmnaigedgmhoaaGreatDoor
open Go.RowKit
set_option linter.unusedSimpArgs false
set_option linter.unusedVariables false
set_option maxRecDepth 100000
theorem op_flat (ls : List Op) : ∀ r ∈ ls.map Op.av, ∀ c ∈ r, flatA c = true := fun r hr c hc => by
  obtain ⟨l, _, rfl⟩ := List.mem_map.1 hr
  simp only [Op.av, List.mem_cons, List.not_mem_nil, or_false] at hc
  rcases hc with rfl | rfl | rfl | rfl | rfl | rfl | rfl | rfl | rfl | rfl <;> rfl
theorem pl_le (s : RS) : (plM rE s).2.b.length ≤ s.b.length := Nat.le_trans (numE_len _) (Nat.le_trans (numE_len _) (numE_len s))
theorem op_le0 (s : RS) : (numE (plM rE (numE (numE (numE (numE (numE s).2).2).2).2).2).2).2.b.length ≤ s.b.length :=
  Nat.le_trans (numE_len _) (Nat.le_trans (pl_le _) (Nat.le_trans (numE_len _) (Nat.le_trans (numE_len _) (Nat.le_trans (numE_len _) (Nat.le_trans (numE_len _) (numE_len s))))))
theorem op_le (s : RS) : (opM rE s).2.b.length ≤ s.b.length := Nat.le_trans (numE_len _) (op_le0 s)
theorem op_used {s : RS} (h : (opM rE s).2.bad = false) : (opM rE s).2.b.length + 4 ≤ s.b.length := by
  have h1 := (num_used (s := (numE (plM rE (numE (numE (numE (numE (numE s).2).2).2).2).2).2).2) h).2
  have h2 := op_le0 s
  show (numE (numE (plM rE (numE (numE (numE (numE (numE s).2).2).2).2).2).2).2).2.b.length + 4 ≤ _
  omega
set_option maxHeartbeats 8000000 in
theorem C51 {x : Ev} {rs : AV} {s : RS} (hl : s.b.length ≤ 1000000) : Fn Tryz.prog 51 [.own 73 [rdC x rs (.own 39 []) s]] [.ptr 0 0 0 0] [] [.own 73 [rdC x rs (.own 39 ((lsM rE (opM rE) [] s).1.map Op.av)) (lsM rE (opM rE) [] s).2]] := by
  refine Spec.body Tryz.func51 rfl Tryz.ntmps51 (by simp) rfl ?_; intro S0 own0 v0 w0 gl
  (refine AW.seq_k ?_; intro K hK)
  refine AW.region ?_
  refine awP (op_move rfl rfl) ?_; (try simp only [nA, Nat.reduceBEq, Nat.reduceEqDiff, ↓reduceIte, Nat.reduceAdd, Nat.reduceSub])
  refine awJ (op_call1 rfl en62 (C62 (x := x) (rs := rs) (os := .own 39 []) (s := s) hl) (by exact rfl) (RL.cons .ptr (RL.nil)) (by exact ⟨_, _, _, rfl, rfl, rfl⟩) (by exact rfl) (by exact rfl) (by exact rfl)) ?_; (try simp only [nA, Nat.reduceBEq, Nat.reduceEqDiff, ↓reduceIte, Nat.reduceAdd, Nat.reduceSub])
  refine awP (op_assign rfl rfl) ?_; (simp only [nA])
  refine AWL.nil ?_
  (refine hK _ ?_; clear hK K; (try simp only [nA, Nat.reduceBEq, Nat.reduceEqDiff, ↓reduceIte, Nat.reduceAdd, Nat.reduceSub]))
  refine AW.block ?_
  have hnn := numE_nn s; refine AW.loopI (fun (q : Nat × List Op × RS × Nat) => [(0, .ptr 0 0 0 0), (2, .v (.int .i64 (q.1 : Nat)))]) (fun q => ⟨[(0, .own 73 [rdC x rs (.own 39 (q.2.1.map Op.av)) q.2.2.1])], q.2.2.2⟩) (fun q => repM (opM rE) q.1 q.2.1 q.2.2.1 = repM (opM rE) (numE s).1.toNat [] (numE s).2 ∧ q.2.1.length + q.2.2.1.b.length ≤ 1000001 ∧ (q.2.2.1.bad = false → q.2.1.length + q.2.2.1.b.length ≤ 1000000) ∧ q.1 ≤ 4294967296) (fun q => q.1) ((numE s).1.toNat, [], (numE s).2, _) ⟨rfl, by have := numE_len s; simp; omega, fun _ => by have := numE_len s; simp; omega, numE_top s⟩ ⟨rfl, by dsimp only; rw [Int.toNat_of_nonneg hnn]; rfl, trivial⟩ rfl ?_; rintro ⟨k, acc, t, ep⟩ ρ ⟨hR, hB1, hB2, hk⟩; dsimp only at hR hB1 hB2 hk ⊢; simp only [updL]
  (refine AW.seq_k ?_; intro K hK)
  (refine AW.seq_k ?_; intro K hK)
  refine AW.region (AWL.quiet ?_)
  refine aqP (op_move rfl rfl) ?_; (simp only [nA, ↓reduceIte])
  refine aqP (op_gtr rfl rfl rfl) ?_; (try simp only [nA, Nat.reduceBEq, Nat.reduceEqDiff, ↓reduceIte, Nat.reduceAdd, Nat.reduceSub])
  refine aqP (op_move rfl rfl) ?_; (simp only [nA])
  refine' aqAnd' [_, _, _, _, _] [8,9,10,11,12] rfl rfl rfl rfl rfl rfl rfl rfl rfl rfl rfl rfl (fun hb => ?_) ?_; rotate_left
  ·
   (try simp only [hcS] at hb)
   refine aqP (op_move rfl rfl) ?_; (simp only [nA, ↓reduceIte])
   (refine aqP (op_nil_slot rfl rfl rfl) ?_); (try simp only [nA, Nat.reduceBEq, Nat.reduceEqDiff, ↓reduceIte, Nat.reduceAdd, Nat.reduceSub])
   (refine aqP (op_fa_ptr rfl rfl rfl fl73_2 (by exact sz4) (by decide) rfl) ?_); (try simp only [nA, Nat.reduceBEq, Nat.reduceEqDiff, ↓reduceIte, Nat.reduceAdd, Nat.reduceSub])
   (refine aqR (op_load_ptr1 rfl rfl rfl rfl ag4 rfl rfl) ?_); (try simp only [nA, Nat.reduceBEq, Nat.reduceEqDiff, ↓reduceIte, Nat.reduceAdd, Nat.reduceSub])
   refine aqP (op_not rfl rfl rfl) ?_; (try simp only [nA, Nat.reduceBEq, Nat.reduceEqDiff, ↓reduceIte, Nat.reduceAdd, Nat.reduceSub])
   (refine aqSeg rfl rfl rfl ?_; repeat (first | exact fun _ _ => rfl | refine upd_out rfl ?_))
  refine AQ.nil ?_
  (refine hK _ ?_; clear hK K; (skip))
  refine AW.cond rfl rfl rfl (fun hc => ?_) (fun hc => ?_)
  ·
   have hc1 := hc; obtain ⟨hk0, hb0⟩ : 0 < k ∧ t.bad = false := (by cases hbb : t.bad <;> rw [hbb] at hc1 <;> simp at hc1 <;> exact ⟨by omega, rfl⟩); obtain ⟨k, rfl⟩ : ∃ k', k = k' + 1 := ⟨k - 1, by omega⟩; rw [rep_step hb0] at hR; have hB := hB2 hb0; have hlt : t.b.length ≤ 1000000 := (by omega)
   refine AW.skip ?_
   (refine hK _ ?_; clear hK K; (skip))
   (refine AW.seq_k ?_; intro K hK)
   refine AW.block ?_
   refine AW.ghE (GhE.unnest (r := 0) (row := rdC x rs (.own 39 (acc.map Op.av)) t) 0 28 rfl rfl rfl) ?_; intro u hu; (try simp only [nA, Nat.reduceBEq, Nat.reduceEqDiff, ↓reduceIte, Nat.reduceAdd, Nat.reduceSub])
   have g0 := C67 (x := x) (rs := rs) (os := .v u) (s := t) hlt
   have hle := op_le t
   have hus := op_used (s := t)
   generalize opM rE t = p1 at g0 hR hle hus
   obtain ⟨o1, t1⟩ := p1
   dsimp only at g0 hR hle hus
   refine AW.aeo (fun T' => ∃ t', T'.slots[0]? = some (0, .own 73 [rdC x rs (.v u) t'])) mix rfl ?_
   refine aePo 0 rfl (fun T' ok => op_move rfl rfl) ⟨_, rfl⟩ (by kernel_rfl) (by kernel_rfl) ?_; (simp only [nA, Nat.reduceBEq, Nat.reduceEqDiff, ↓reduceIte])
   refine aePo 1 rfl (fun T' ok => op_move rfl rfl) ⟨_, rfl⟩ (by kernel_rfl) (by kernel_rfl) ?_; (simp only [nA, Nat.reduceEqDiff, ↓reduceIte])
   refine aePo 2 rfl (fun T' ok => ok.elim fun t' ok => op_nil_slot rfl rfl ok) ⟨_, rfl⟩ (by kernel_rfl) (by kernel_rfl) ?_; (try simp only [nA, Nat.reduceBEq, Nat.reduceEqDiff, ↓reduceIte, Nat.reduceAdd, Nat.reduceSub])
   refine aePo 3 rfl (fun T' ok => ok.elim fun t' ok => op_fa_ptr rfl rfl ok fl73_1 (by exact sz42) (by decide) rfl) ⟨_, rfl⟩ (by kernel_rfl) (by kernel_rfl) ?_; (try simp only [nA, Nat.reduceBEq, Nat.reduceEqDiff, ↓reduceIte, Nat.reduceAdd, Nat.reduceSub])
   refine aePo 4 rfl (fun T' ok => ok.elim fun t' ok => op_fa_ptr rfl rfl ok fl42_11 (by exact sz40) (by decide) rfl) ⟨_, rfl⟩ (by kernel_rfl) (by kernel_rfl) ?_; (simp only [nA, Nat.reduceBEq, Nat.reduceEqDiff, ↓reduceIte])
   refine aeRo 5 rfl (fun T' ok => ok.elim fun t' ok => op_load_ptr1 (row := rdC x rs (.v u) t') rfl rfl ok rfl ag40 rfl rfl) ⟨_, rfl⟩ (by kernel_rfl) (by kernel_rfl) ?_; (try simp only [nA, Nat.reduceBEq, Nat.reduceEqDiff, ↓reduceIte, Nat.reduceAdd, Nat.reduceSub])
   refine aePo 6 rfl (fun T' ok => op_move rfl rfl) ⟨_, rfl⟩ (by kernel_rfl) (by kernel_rfl) ?_; (simp only [nA, Nat.reduceEqDiff, ↓reduceIte])
   refine aeJo 7 rfl (op_call1 rfl en67 g0 (by exact rfl) (RL.cons .ptr (RL.nil)) (by exact ⟨_, _, _, rfl, rfl, rfl⟩) (by exact rfl) (by exact rfl) (by exact rfl)) (by kernel_rfl) ⟨_, rfl⟩ ?_; (try simp only [nA, Nat.reduceBEq, Nat.reduceEqDiff, ↓reduceIte, Nat.reduceAdd, Nat.reduceSub])
   refine aeJo 8 rfl (OpJ.frz (op_buildSlice rfl [(0, Op.av o1)] [Op.av o1] Tryz.underlying40 ze39 rfl (by simp) rfl (by simp) rfl (bl rfl) (by simp [maxLen])) (op_flat [o1]) rfl) (by kernel_rfl) ⟨_, rfl⟩ ?_; (try simp only [nA, Nat.reduceBEq, Nat.reduceEqDiff, ↓reduceIte, Nat.reduceAdd, Nat.reduceSub])
   refine aeJo 9 rfl (OpJ.nm (t := 21) (r := 1) rfl rfl (op_app (rows := [Op.av o1]) rfl rfl rfl rfl (by simp) .ro Tryz.underlying40 ze39 (by decide) (by simp) (by simp; omega) (by decide) (es' := (acc ++ [o1]).map Op.av) (by simp) (n := (acc ++ [o1]).length) (by simp))) (by kernel_rfl) ⟨_, rfl⟩ ?_; (try simp only [nA, Nat.reduceBEq, Nat.reduceEqDiff, ↓reduceIte, Nat.reduceAdd, Nat.reduceSub])
   refine aePo 10 rfl (fun T' ok => ok.elim fun t' ok => op_nil_slot rfl rfl ok) ⟨_, rfl⟩ (by kernel_rfl) (by kernel_rfl) ?_; (try simp only [nA, Nat.reduceBEq, Nat.reduceEqDiff, ↓reduceIte, Nat.reduceAdd, Nat.reduceSub])
   refine aePo 11 rfl (fun T' ok => ok.elim fun t' ok => op_fa_ptr rfl rfl ok fl73_1 (by exact sz42) (by decide) rfl) ⟨_, rfl⟩ (by kernel_rfl) (by kernel_rfl) ?_; (try simp only [nA, Nat.reduceBEq, Nat.reduceEqDiff, ↓reduceIte, Nat.reduceAdd, Nat.reduceSub])
   refine aePo 12 rfl (fun T' ok => ok.elim fun t' ok => op_fa_ptr rfl rfl ok fl42_11 (by exact sz40) (by decide) rfl) ⟨_, rfl⟩ (by kernel_rfl) (by kernel_rfl) ?_; (simp only [nA, Nat.reduceBEq, Nat.reduceEqDiff, ↓reduceIte])
   refine aeLo 13 rfl (op_store_nest (r := 0) (q := 1) rfl rfl rfl rfl (row := rdC x rs (.v u) t1) rfl sz40 rfl (by decide) (by simp) (by simp) (es2 := [rdC x rs (.own 39 ((acc ++ [o1]).map Op.av)) t1]) rfl) (by kernel_rfl) (by kernel_rfl) ?_; (try simp only [nA, Nat.reduceBEq, Nat.reduceEqDiff, ↓reduceIte, Nat.reduceAdd, Nat.reduceSub])
   refine aeDoneo (by kernel_rfl) ?_
   (try simp only [thenE, inBlk, Nat.reduceEqDiff, ↓reduceIte])
   (refine hK _ ?_; clear hK K; (skip))
   refine AW.region ?_
   refine awP (op_move rfl rfl) ?_; (simp only [nA, Nat.reduceEqDiff, ↓reduceIte])
   (refine awP (op_subi rfl rfl rfl (by omega)) ?_); (try simp only [nA, Nat.reduceBEq, Nat.reduceEqDiff, ↓reduceIte, Nat.reduceAdd, Nat.reduceSub])
   refine awP (op_assign rfl rfl) ?_; (simp only [nA])
   refine AWL.gh (Gh.drop 1) ?_; (try simp only [nA, Nat.reduceBEq, Nat.reduceEqDiff, ↓reduceIte, Nat.reduceAdd, Nat.reduceSub])
   refine AWL.nil ?_
   refine ⟨(k, acc ++ [o1], t1, _), ⟨hR, by dsimp only at hle ⊢; rw [List.length_append]; simp only [List.length_cons, List.length_nil]; omega, fun h => by have := hus h; dsimp only at this ⊢; rw [List.length_append]; simp only [List.length_cons, List.length_nil]; omega, by dsimp only; omega⟩, by dsimp only; omega, ⟨rfl, by dsimp only; exact congrArg (fun z => AV.v (.int .i64 z)) (by omega), trivial⟩, (by rfl), (by rfl)⟩
  have hc1 := hc; have hE : repM (opM rE) k acc t = (acc, t) := (by cases hbb : t.bad with | true => exact rep_bad hbb | false => (have h0 : k = 0 := (by rw [hbb] at hc1; simp at hc1; omega); subst h0; rfl)); rw [hE] at hR
  refine AW.exit ?_; (try simp only [thenE, inBlk, Nat.reduceEqDiff, ↓reduceIte])
  clear hK K
  show RQ _ _ _ _ _ _; rw [show lsM rE (opM rE) [] s = (acc, t) from hR.symm]; exact RQ.of (.inr rfl) rfl .nil (by simp) rfl (one_out rfl)
end Go.Proofs.YtfmnaigedgmhoaaGreatDoor
namespace Go.Proofs.YtfmnaigedgmhoaaGreatDoor
open Go.RowKit
set_option linter.unusedSimpArgs false
set_option linter.unusedVariables false
set_option maxRecDepth 100000
set_option maxHeartbeats 8000000 in
theorem C99 {c : UInt8} : Fn Tryz.prog 99 [] [.v (.int .u8 c.toNat)] [.v (.bool (upB c))] [] := by
  refine Spec.body Tryz.func99 rfl Tryz.ntmps99 (by simp) rfl ?_; intro S0 own0 v0 w0 gl
  (refine AW.seq_k ?_; intro K hK)
  refine AW.region ?_
  refine awP (op_assign rfl rfl) ?_
  refine AWL.nil ?_
  (refine hK _ ?_; clear hK K; (try simp only [nA, Nat.reduceBEq, Nat.reduceEqDiff, ↓reduceIte, Nat.reduceAdd, Nat.reduceSub]))
  (refine AW.seq_k ?_; intro K hK)
  refine AW.region (AWL.quiet ?_)
  refine aqP (op_move rfl rfl) ?_
  refine aqP (op_geq rfl rfl rfl) ?_
  refine aqP (op_move rfl rfl) ?_
  refine' aqAnd' [_, _] [6,7] rfl rfl rfl rfl rfl rfl rfl rfl rfl rfl rfl rfl (fun hb => ?_) ?_; rotate_left
  ·
   (try simp only [hcS] at hb)
   refine aqP (op_move rfl rfl) ?_
   refine aqP (op_leq rfl rfl rfl) ?_
   (refine aqSeg rfl rfl rfl ?_; repeat (first | exact fun _ _ => rfl | refine upd_out rfl ?_))
  simp only [nA, ↓reduceIte]
  refine aqP (op_assign rfl rfl) ?_
  refine AQ.nil ?_
  (refine hK _ ?_; clear hK K; (simp only [nA]))
  skip
  refine AW.ret ?_; (try simp only [thenE, inBlk, Nat.reduceEqDiff, ↓reduceIte]); exact RQ.of0 rfl (.tmp (bl rfl) rfl rfl .nil)
set_option maxHeartbeats 8000000 in
theorem C100 {c : UInt8} : Fn Tryz.prog 100 [] [.v (.int .u8 c.toNat)] [.v (.bool (dgB c))] [] := by
  refine Spec.body Tryz.func100 rfl Tryz.ntmps100 (by simp) rfl ?_; intro S0 own0 v0 w0 gl
  (refine AW.seq_k ?_; intro K hK)
  refine AW.region ?_
  refine awP (op_assign rfl rfl) ?_
  refine AWL.nil ?_
  (refine hK _ ?_; clear hK K; (try simp only [nA, Nat.reduceBEq, Nat.reduceEqDiff, ↓reduceIte, Nat.reduceAdd, Nat.reduceSub]))
  (refine AW.seq_k ?_; intro K hK)
  refine AW.region (AWL.quiet ?_)
  refine aqP (op_move rfl rfl) ?_
  refine aqP (op_geq rfl rfl rfl) ?_
  refine aqP (op_move rfl rfl) ?_
  refine' aqAnd' [_, _] [6,7] rfl rfl rfl rfl rfl rfl rfl rfl rfl rfl rfl rfl (fun hb => ?_) ?_; rotate_left
  ·
   (try simp only [hcS] at hb)
   refine aqP (op_move rfl rfl) ?_
   refine aqP (op_leq rfl rfl rfl) ?_
   (refine aqSeg rfl rfl rfl ?_; repeat (first | exact fun _ _ => rfl | refine upd_out rfl ?_))
  simp only [nA, ↓reduceIte]
  refine aqP (op_assign rfl rfl) ?_
  refine AQ.nil ?_
  (refine hK _ ?_; clear hK K; (simp only [nA]))
  skip
  refine AW.ret ?_; (try simp only [thenE, inBlk, Nat.reduceEqDiff, ↓reduceIte]); exact RQ.of0 rfl (.tmp (bl rfl) rfl rfl .nil)
def sufR (s : ByteArray) : Bool := (s.toList == (⟨#[]⟩ : ByteArray).toList) || (decide ((s.size : Int) = 1) && upB (chr s 0))
set_option maxHeartbeats 8000000 in
theorem C87r {s : ByteArray} : Fn Tryz.prog 87 [] [.v (.string s)] [.v (.bool (sufR s))] [] := by
  refine Spec.body Tryz.func87 rfl Tryz.ntmps87 (by simp) rfl ?_; intro S0 own0 v0 w0 gl
  (refine AW.seq_k ?_; intro K hK)
  refine AW.region ?_
  refine awP (op_assign rfl rfl) ?_
  refine AWL.nil ?_
  (refine hK _ ?_; clear hK K; (try simp only [nA, Nat.reduceBEq, Nat.reduceEqDiff, ↓reduceIte, Nat.reduceAdd, Nat.reduceSub]))
  (refine AW.seq_k ?_; intro K hK)
  refine AW.region (AWL.quiet ?_)
  refine aqP (op_move rfl rfl) ?_
  (refine aqP (op_seql rfl rfl rfl) ?_)
  refine aqP (op_move rfl rfl) ?_
  refine' aqOrN' [_, _, _, _, _, _, _, _] [6,7,8,9,10,11,12,13] rfl rfl rfl rfl rfl rfl rfl rfl rfl rfl rfl rfl (fun hb => ?_) ?_; rotate_left
  ·
   (try simp only [hcS] at hb)
   refine aqP (op_move rfl rfl) ?_
   (refine aqP (op_len_str rfl rfl Tryz.underlying9) ?_)
   (refine aqP (op_eql rfl rfl rfl) ?_)
   refine aqP (op_move rfl rfl) ?_
   refine' aqAnd' [_, _, _] [10,11,12] rfl rfl rfl rfl rfl rfl rfl rfl rfl rfl rfl rfl (fun hb => ?_) ?_; rotate_left
   ·
    (try simp only [hcS] at hb)
    refine aqP (op_move rfl rfl) ?_
    refine aqP (op_ix_str 0 rfl rfl rfl Tryz.underlying9 rfl (get_chr (s := s) (i := 0) (by omega))) ?_
    refine aqQ (op_callQ (b := true) rfl en99 (C99) (RL.cons (by exact View.same rfl) (RL.nil)) rfl) ?_; (simp only [nA, ↓reduceIte])
    (refine aqSeg rfl rfl rfl ?_; repeat (first | exact fun _ _ => rfl | refine upd_out rfl ?_))
   simp only [nA, ↓reduceIte]
   (refine aqSeg rfl rfl rfl ?_; repeat (first | exact fun _ _ => rfl | refine upd_out rfl ?_ | refine era_out rfl ?_))
  simp only [nA, ↓reduceIte]
  refine aqP (op_assign rfl rfl) ?_
  refine AQ.nil ?_
  (refine hK _ ?_; clear hK K; (simp only [nA]))
  skip
  refine AW.ret ?_; (try simp only [thenE, inBlk, Nat.reduceEqDiff, ↓reduceIte]); exact RQ.of0 rfl (.tmp (bl rfl) rfl rfl .nil)
def carR (s : ByteArray) : Bool := ((upB (chr s 0) || dgB (chr s 0)) && (upB (chr s 1) || dgB (chr s 1))) && (upB (chr s 0) || upB (chr s 1))
def car0 (s : ByteArray) : Bool := if (s.size : Int) ≠ 2 then false else carR s
set_option maxHeartbeats 8000000 in
theorem C86r {s : ByteArray} : Fn Tryz.prog 86 [] [.v (.string s)] [.v (.bool (car0 s))] [] := by
  refine Spec.body Tryz.func86 rfl Tryz.ntmps86 (by simp) rfl ?_; intro S0 own0 v0 w0 gl
  (refine AW.seq_k ?_; intro K hK)
  refine AW.region ?_
  refine awP (op_assign rfl rfl) ?_
  refine AWL.nil ?_
  (refine hK _ ?_; clear hK K; (try simp only [nA, Nat.reduceBEq, Nat.reduceEqDiff, ↓reduceIte, Nat.reduceAdd, Nat.reduceSub]))
  (refine AW.seq_k ?_; intro K hK)
  (refine AW.seq_k ?_; intro K hK)
  refine AW.region ?_
  refine awP (op_move rfl rfl) ?_
  (refine awP (op_len_str rfl rfl Tryz.underlying9) ?_)
  (refine awP (op_neq rfl rfl rfl) ?_)
  refine AWL.nil ?_
  (refine hK _ ?_; clear hK K; (simp only [nA, ↓reduceIte]))
  refine AW.cond rfl rfl rfl (fun hc => ?_) (fun hc => ?_)
  ·
   (try simp only [hcS] at hc); have hc1 := hc
   (refine AW.seq_k ?_; intro K hK)
   refine AW.region ?_
   refine awP (op_assign rfl rfl) ?_
   refine AWL.nil ?_
   (refine hK _ ?_; clear hK K; (try simp only [nA, Nat.reduceBEq, Nat.reduceEqDiff, ↓reduceIte, Nat.reduceAdd, Nat.reduceSub]))
   skip
   refine AW.ret ?_; (try simp only [thenE, inBlk, Nat.reduceEqDiff, ↓reduceIte]); rw [show car0 s = false by unfold car0; rw [if_pos (by omega)]]; exact RQ.of0 rfl (.tmp (bl rfl) rfl rfl .nil)
  (try simp only [hcS] at hc); have hc1 := hc
  refine AW.skip ?_
  (refine hK _ ?_; clear hK K; (skip))
  (refine AW.seq_k ?_; intro K hK)
  refine AW.quiet mix (by kernel_rfl) ?_
  refine aqP (op_move rfl rfl) ?_
  refine aqP (op_ix_str 0 rfl rfl rfl Tryz.underlying9 rfl (get_chr (s := s) (i := 0) (by omega))) ?_
  refine aqQ (op_callQ (b := true) rfl en99 (C99) (RL.cons (by exact View.same rfl) (RL.nil)) rfl) ?_; (simp only [nA, ↓reduceIte])
  refine aqP (op_move rfl rfl) ?_
  refine aqP (op_ix_str 1 rfl rfl rfl Tryz.underlying9 rfl (get_chr (s := s) (i := 1) (by omega))) ?_
  refine aqQ (op_callQ (b := true) rfl en99 (C99) (RL.cons (by exact View.same rfl) (RL.nil)) rfl) ?_; (simp only [nA, ↓reduceIte])
  refine aqP (op_assign rfl rfl) ?_
  refine aqP (op_assign rfl rfl) ?_
  refine AQ.nil ?_
  (refine hK _ ?_; clear hK K; (simp only [nA, ↓reduceIte]))
  (refine AW.seq_k ?_; intro K hK)
  refine AW.region (AWL.quiet ?_)
  refine aqP (op_move rfl rfl) ?_
  refine aqP (op_move rfl rfl) ?_
  refine' aqOr' [_, _, _] [16,17,18] rfl rfl rfl rfl rfl rfl rfl rfl rfl rfl rfl rfl (fun hb => ?_) ?_; rotate_left
  ·
   (try simp only [hcS] at hb)
   refine aqP (op_move rfl rfl) ?_
   refine aqP (op_ix_str 0 rfl rfl rfl Tryz.underlying9 rfl (get_chr (s := s) (i := 0) (by omega))) ?_
   refine aqQ (op_callQ (b := true) rfl en100 (C100) (RL.cons (by exact View.same rfl) (RL.nil)) rfl) ?_; (simp only [nA, ↓reduceIte])
   (refine aqSeg rfl rfl rfl ?_; repeat (first | exact fun _ _ => rfl | refine upd_out rfl ?_))
  simp only [nA, ↓reduceIte]
  refine aqP (op_move rfl rfl) ?_
  refine' aqAndN' [_, _, _, _, _, _] [21,22,23,24,25,26] rfl rfl rfl rfl rfl rfl rfl rfl rfl rfl rfl rfl (fun hb => ?_) ?_; rotate_left
  ·
   (try simp only [hcS] at hb)
   refine aqP (op_move rfl rfl) ?_
   refine aqP (op_move rfl rfl) ?_
   refine' aqOr' [_, _, _] [23,24,25] rfl rfl rfl rfl rfl rfl rfl rfl rfl rfl rfl rfl (fun hb => ?_) ?_; rotate_left
   ·
    (try simp only [hcS] at hb)
    refine aqP (op_move rfl rfl) ?_
    refine aqP (op_ix_str 1 rfl rfl rfl Tryz.underlying9 rfl (get_chr (s := s) (i := 1) (by omega))) ?_
    refine aqQ (op_callQ (b := true) rfl en100 (C100) (RL.cons (by exact View.same rfl) (RL.nil)) rfl) ?_; (simp only [nA, Nat.reduceEqDiff, ↓reduceIte])
    (refine aqSeg rfl rfl rfl ?_; repeat (first | exact fun _ _ => rfl | refine upd_out rfl ?_))
   simp only [nA, Nat.reduceEqDiff, ↓reduceIte]
   (refine aqSeg rfl rfl rfl ?_; repeat (first | exact fun _ _ => rfl | refine upd_out rfl ?_ | refine era_out rfl ?_))
  simp only [nA]
  refine aqP (op_move rfl rfl) ?_
  refine' aqAndN' [_, _, _, _] [29,30,31,32] rfl rfl rfl rfl rfl rfl rfl rfl rfl rfl rfl rfl (fun hb => ?_) ?_; rotate_left
  ·
   (try simp only [hcS] at hb)
   refine aqP (op_move rfl rfl) ?_
   refine aqP (op_move rfl rfl) ?_
   refine' aqOr' [_] [31] rfl rfl rfl rfl rfl rfl rfl rfl rfl rfl rfl rfl (fun hb => ?_) ?_; rotate_left
   ·
    (try simp only [hcS] at hb)
    refine aqP (op_move rfl rfl) ?_
    (refine aqSeg rfl rfl rfl ?_; repeat (first | exact fun _ _ => rfl | refine upd_out rfl ?_))
   simp only [nA, Nat.reduceEqDiff, ↓reduceIte]
   (refine aqSeg rfl rfl rfl ?_; repeat (first | exact fun _ _ => rfl | refine upd_out rfl ?_ | refine era_out rfl ?_))
  simp only [nA]
  refine aqP (op_assign rfl rfl) ?_
  refine AQ.nil ?_
  (refine hK _ ?_; clear hK K; (simp only [nA]))
  skip
  refine AW.ret ?_; (try simp only [thenE, inBlk, Nat.reduceEqDiff, ↓reduceIte]); rw [show car0 s = carR s by unfold car0; rw [if_neg (by omega)]]; exact RQ.of0 rfl (.tmp (bl rfl) rfl rfl .nil)
theorem bytes_eq (s : ByteArray) : s.toList = s.data.toList := by
  exact ByteArray.toList_eq s
theorem suf_eq (s : ByteArray) : sufR s = lettersB s 0 1 := by
  unfold sufR lettersB
  rw [bytes_eq, bytes_eq]
  have hs := size_len s
  rcases hd : s.data.toList with _ | ⟨a, _ | ⟨b, t⟩⟩
  · rw [hd] at hs
    simp at hs
    simp [← hs]
  · rw [hd] at hs
    simp at hs
    simp [← hs, chr, hd]
  rw [hd] at hs
  simp at hs
  have h1 : ¬ (s.size : Int) = 1 := by omega
  have h2 : ¬ (s.size : Int) ≤ 1 := by omega
  simp [h1, h2]
theorem car_eq (s : ByteArray) : car0 s = carB s := by
  unfold car0 carB
  have hs := size_len s
  by_cases h2 : s.size = 2
  · rw [if_neg (by omega)]
    rcases hd : s.data.toList with _ | ⟨a, _ | ⟨b, _ | ⟨d, t⟩⟩⟩ <;> rw [hd] at hs <;> simp at hs <;> try omega
    unfold carR chr
    rw [hd]
    simp [h2]
  rw [if_pos (by omega)]
  simp [h2]
set_option maxHeartbeats 8000000 in
theorem C87 {s : ByteArray} : Fn Tryz.prog 87 [] [.v (.string s)] [.v (.bool (lettersB s 0 1))] [] := by
  rw [← suf_eq]; exact C87r
set_option maxHeartbeats 8000000 in
theorem C86 {s : ByteArray} : Fn Tryz.prog 86 [] [.v (.string s)] [.v (.bool (carB s))] [] := by
  rw [← car_eq]; exact C86r
set_option maxHeartbeats 8000000 in
theorem C60 {f : Flight} : Fn Tryz.prog 60 [] [.agg f.av] [.v (.bool (flB f))] [] := by
  refine Spec.body Tryz.func60 rfl Tryz.ntmps60 (by simp) rfl ?_; intro S0 own0 v0 w0 gl
  (refine AW.seq_k ?_; intro K hK)
  refine AW.region ?_
  refine awJ (op_box rfl rfl rfl sz33 rfl) ?_; (simp only [nA, Nat.reduceBEq, Nat.reduceEqDiff, ↓reduceIte])
  refine awP (op_assign rfl rfl) ?_
  refine AWL.nil ?_
  (refine hK _ ?_; clear hK K; (try simp only [nA, Nat.reduceBEq, Nat.reduceEqDiff, ↓reduceIte, Nat.reduceAdd, Nat.reduceSub]))
  (refine AW.seq_k ?_; intro K hK)
  refine AW.region (AWL.quiet ?_)
  (refine aqP (op_fa_ptr rfl rfl rfl fl33_0 (by exact sz9) (by decide) rfl) ?_)
  (refine aqR (op_load_ptr1 rfl rfl rfl rfl ag9 rfl rfl) ?_)
  refine aqQ (op_callQ (b := true) rfl en86 (C86) (RL.cons (by exact View.same rfl) (RL.nil)) rfl) ?_; (try simp only [nA, Nat.reduceBEq, Nat.reduceEqDiff, ↓reduceIte, Nat.reduceAdd, Nat.reduceSub])
  refine aqP (op_move rfl rfl) ?_
  refine' aqAnd' [_, _, _] [7,8,9] rfl rfl rfl rfl rfl rfl rfl rfl rfl rfl rfl rfl (fun hb => ?_) ?_; rotate_left
  ·
   (try simp only [hcS] at hb)
   (refine aqP (op_fa_ptr rfl rfl rfl fl33_1 (by exact sz3) (by decide) rfl) ?_)
   (refine aqR (op_load_ptr1 rfl rfl rfl rfl ag3 rfl rfl) ?_)
   refine aqP (op_geq rfl rfl rfl) ?_
   (refine aqSeg rfl rfl rfl ?_; repeat (first | exact fun _ _ => rfl | refine upd_out rfl ?_))
  simp only [nA]
  refine aqP (op_move rfl rfl) ?_
  refine' aqAnd' [_, _, _] [12,13,14] rfl rfl rfl rfl rfl rfl rfl rfl rfl rfl rfl rfl (fun hb => ?_) ?_; rotate_left
  ·
   (try simp only [hcS] at hb)
   (refine aqP (op_fa_ptr rfl rfl rfl fl33_1 (by exact sz3) (by decide) rfl) ?_)
   (refine aqR (op_load_ptr1 rfl rfl rfl rfl ag3 rfl rfl) ?_)
   refine aqP (op_leq rfl rfl rfl) ?_
   (refine aqSeg rfl rfl rfl ?_; repeat (first | exact fun _ _ => rfl | refine upd_out rfl ?_))
  simp only [nA]
  refine aqP (op_move rfl rfl) ?_
  refine' aqAnd' [_, _, _] [17,18,19] rfl rfl rfl rfl rfl rfl rfl rfl rfl rfl rfl rfl (fun hb => ?_) ?_; rotate_left
  ·
   (try simp only [hcS] at hb)
   (refine aqP (op_fa_ptr rfl rfl rfl fl33_2 (by exact sz9) (by decide) rfl) ?_)
   (refine aqR (op_load_ptr1 rfl rfl rfl rfl ag9 rfl rfl) ?_)
   refine aqQ (op_callQ (b := true) rfl en87 (C87) (RL.cons (by exact View.same rfl) (RL.nil)) rfl) ?_; (simp only [nA])
   (refine aqSeg rfl rfl rfl ?_; repeat (first | exact fun _ _ => rfl | refine upd_out rfl ?_))
  simp only [nA]
  refine aqP (op_move rfl rfl) ?_
  refine' aqAnd' [_, _, _] [22,23,24] rfl rfl rfl rfl rfl rfl rfl rfl rfl rfl rfl rfl (fun hb => ?_) ?_; rotate_left
  ·
   (try simp only [hcS] at hb)
   (refine aqP (op_fa_ptr rfl rfl rfl fl33_3 (by exact sz3) (by decide) rfl) ?_)
   (refine aqR (op_load_ptr1 rfl rfl rfl rfl ag3 rfl rfl) ?_)
   refine aqP (op_geq rfl rfl rfl) ?_
   (refine aqSeg rfl rfl rfl ?_; repeat (first | exact fun _ _ => rfl | refine upd_out rfl ?_))
  simp only [nA]
  refine aqP (op_move rfl rfl) ?_
  refine' aqAnd' [_, _, _] [27,28,29] rfl rfl rfl rfl rfl rfl rfl rfl rfl rfl rfl rfl (fun hb => ?_) ?_; rotate_left
  ·
   (try simp only [hcS] at hb)
   (refine aqP (op_fa_ptr rfl rfl rfl fl33_3 (by exact sz3) (by decide) rfl) ?_)
   (refine aqR (op_load_ptr1 rfl rfl rfl rfl ag3 rfl rfl) ?_)
   refine aqP (op_leq rfl rfl rfl) ?_
   (refine aqSeg rfl rfl rfl ?_; repeat (first | exact fun _ _ => rfl | refine upd_out rfl ?_))
  simp only [nA]
  refine aqP (op_assign rfl rfl) ?_
  refine AQ.nil ?_
  (refine hK _ ?_; clear hK K; (simp only [nA]))
  skip
  refine AW.ret ?_; (try simp only [thenE, inBlk, Nat.reduceEqDiff, ↓reduceIte]); exact RQ.of0 rfl (.tmp (bl rfl) rfl rfl .nil)
def plR (p : Plate) : Bool := ((((decide (p.lead ≥ 0) && decide (p.lead ≤ 9)) && decide (p.airline ≥ 1)) && decide (p.airline ≤ 999)) && decide (p.serial ≥ 0)) && decide (p.serial ≤ 999999)
theorem plR_eq (p : Plate) : plR p = plB p := by
  unfold plR plB
  rw [show decide (p.serial ≤ 999999) = decide (p.serial < 1000000) from decide_eq_decide.2 (by omega)]
set_option maxHeartbeats 8000000 in
theorem C57r {p : Plate} : Fn Tryz.prog 57 [] [.agg p.av] [.v (.bool (plR p))] [] := by
  refine Spec.body Tryz.func57 rfl Tryz.ntmps57 (by simp) rfl ?_; intro S0 own0 v0 w0 gl
  (refine AW.seq_k ?_; intro K hK)
  refine AW.region ?_
  refine awJ (op_box rfl rfl rfl sz30 rfl) ?_; (simp only [nA, Nat.reduceBEq, Nat.reduceEqDiff, ↓reduceIte])
  refine awP (op_assign rfl rfl) ?_
  refine AWL.nil ?_
  (refine hK _ ?_; clear hK K; (try simp only [nA, Nat.reduceBEq, Nat.reduceEqDiff, ↓reduceIte, Nat.reduceAdd, Nat.reduceSub]))
  (refine AW.seq_k ?_; intro K hK)
  refine AW.region (AWL.quiet ?_)
  (refine aqP (op_fa_ptr rfl rfl rfl fl30_0 (by exact sz3) (by decide) rfl) ?_)
  (refine aqR (op_load_ptr1 rfl rfl rfl rfl ag3 rfl rfl) ?_)
  refine aqP (op_geq rfl rfl rfl) ?_
  refine aqP (op_move rfl rfl) ?_
  refine' aqAnd' [_, _, _] [7,8,9] rfl rfl rfl rfl rfl rfl rfl rfl rfl rfl rfl rfl (fun hb => ?_) ?_; rotate_left
  ·
   (try simp only [hcS] at hb)
   (refine aqP (op_fa_ptr rfl rfl rfl fl30_0 (by exact sz3) (by decide) rfl) ?_)
   (refine aqR (op_load_ptr1 rfl rfl rfl rfl ag3 rfl rfl) ?_)
   refine aqP (op_leq rfl rfl rfl) ?_
   (refine aqSeg rfl rfl rfl ?_; repeat (first | exact fun _ _ => rfl | refine upd_out rfl ?_))
  simp only [nA]
  refine aqP (op_move rfl rfl) ?_
  refine' aqAnd' [_, _, _] [12,13,14] rfl rfl rfl rfl rfl rfl rfl rfl rfl rfl rfl rfl (fun hb => ?_) ?_; rotate_left
  ·
   (try simp only [hcS] at hb)
   (refine aqP (op_fa_ptr rfl rfl rfl fl30_1 (by exact sz3) (by decide) rfl) ?_)
   (refine aqR (op_load_ptr1 rfl rfl rfl rfl ag3 rfl rfl) ?_)
   refine aqP (op_geq rfl rfl rfl) ?_
   (refine aqSeg rfl rfl rfl ?_; repeat (first | exact fun _ _ => rfl | refine upd_out rfl ?_))
  simp only [nA]
  refine aqP (op_move rfl rfl) ?_
  refine' aqAnd' [_, _, _] [17,18,19] rfl rfl rfl rfl rfl rfl rfl rfl rfl rfl rfl rfl (fun hb => ?_) ?_; rotate_left
  ·
   (try simp only [hcS] at hb)
   (refine aqP (op_fa_ptr rfl rfl rfl fl30_1 (by exact sz3) (by decide) rfl) ?_)
   (refine aqR (op_load_ptr1 rfl rfl rfl rfl ag3 rfl rfl) ?_)
   refine aqP (op_leq rfl rfl rfl) ?_
   (refine aqSeg rfl rfl rfl ?_; repeat (first | exact fun _ _ => rfl | refine upd_out rfl ?_))
  simp only [nA]
  refine aqP (op_move rfl rfl) ?_
  refine' aqAnd' [_, _, _] [22,23,24] rfl rfl rfl rfl rfl rfl rfl rfl rfl rfl rfl rfl (fun hb => ?_) ?_; rotate_left
  ·
   (try simp only [hcS] at hb)
   (refine aqP (op_fa_ptr rfl rfl rfl fl30_2 (by exact sz3) (by decide) rfl) ?_)
   (refine aqR (op_load_ptr1 rfl rfl rfl rfl ag3 rfl rfl) ?_)
   refine aqP (op_geq rfl rfl rfl) ?_
   (refine aqSeg rfl rfl rfl ?_; repeat (first | exact fun _ _ => rfl | refine upd_out rfl ?_))
  simp only [nA]
  refine aqP (op_move rfl rfl) ?_
  refine' aqAnd' [_, _, _] [27,28,29] rfl rfl rfl rfl rfl rfl rfl rfl rfl rfl rfl rfl (fun hb => ?_) ?_; rotate_left
  ·
   (try simp only [hcS] at hb)
   (refine aqP (op_fa_ptr rfl rfl rfl fl30_2 (by exact sz3) (by decide) rfl) ?_)
   (refine aqR (op_load_ptr1 rfl rfl rfl rfl ag3 rfl rfl) ?_)
   refine aqP (op_leq rfl rfl rfl) ?_
   (refine aqSeg rfl rfl rfl ?_; repeat (first | exact fun _ _ => rfl | refine upd_out rfl ?_))
  simp only [nA]
  refine aqP (op_assign rfl rfl) ?_
  refine AQ.nil ?_
  (refine hK _ ?_; clear hK K; (simp only [nA]))
  skip
  refine AW.ret ?_; (try simp only [thenE, inBlk, Nat.reduceEqDiff, ↓reduceIte]); exact RQ.of0 rfl (.tmp (bl rfl) rfl rfl .nil)
set_option maxHeartbeats 8000000 in
theorem C57 {p : Plate} : Fn Tryz.prog 57 [] [.agg p.av] [.v (.bool (plB p))] [] := by
  rw [← plR_eq]; exact C57r
def piR (p : Piece) : Bool := (((plB p.plate && decide (p.weight ≥ 1)) && decide (p.weight ≤ 999)) && decide (p.category ≥ 0)) && decide (p.category ≤ 4)
theorem piR_eq (p : Piece) : piR p = piB p := by unfold piR piB inB; simp only [Bool.and_assoc]
set_option maxHeartbeats 8000000 in
theorem C88r {p : Piece} : Fn Tryz.prog 88 [] [.agg p.av] [.v (.bool (piR p))] [] := by
  refine Spec.body Tryz.func88 rfl Tryz.ntmps88 (by simp) rfl ?_; intro S0 own0 v0 w0 gl
  (refine AW.seq_k ?_; intro K hK)
  refine AW.region ?_
  refine awJ (op_box rfl rfl rfl sz37 rfl) ?_; (simp only [nA, Nat.reduceBEq, Nat.reduceEqDiff, ↓reduceIte])
  refine awP (op_assign rfl rfl) ?_
  refine AWL.nil ?_
  (refine hK _ ?_; clear hK K; (try simp only [nA, Nat.reduceBEq, Nat.reduceEqDiff, ↓reduceIte, Nat.reduceAdd, Nat.reduceSub]))
  (refine AW.seq_k ?_; intro K hK)
  refine AW.region (AWL.quiet ?_)
  (refine aqP (op_fa_ptr rfl rfl rfl fl37_0 (by exact sz30) (by decide) rfl) ?_)
  (refine aqR (op_load_ptr rfl rfl rfl rfl ag30 sz30 (bl rfl) rfl) ?_)
  refine aqQ (op_callQ (b := true) rfl en57 (C57 (p := p.plate)) (RL.cons (by exact View.same rfl) (RL.nil)) rfl) ?_; (try simp only [nA, Nat.reduceBEq, Nat.reduceEqDiff, ↓reduceIte, Nat.reduceAdd, Nat.reduceSub])
  refine aqP (op_move rfl rfl) ?_
  refine' aqAnd' [_, _, _] [7,8,9] rfl rfl rfl rfl rfl rfl rfl rfl rfl rfl rfl rfl (fun hb => ?_) ?_; rotate_left
  ·
   (try simp only [hcS] at hb)
   (refine aqP (op_fa_ptr rfl rfl rfl fl37_1 (by exact sz3) (by decide) rfl) ?_)
   (refine aqR (op_load_ptr1 rfl rfl rfl rfl ag3 rfl rfl) ?_)
   refine aqP (op_geq rfl rfl rfl) ?_
   (refine aqSeg rfl rfl rfl ?_; repeat (first | exact fun _ _ => rfl | refine upd_out rfl ?_))
  simp only [nA]
  refine aqP (op_move rfl rfl) ?_
  refine' aqAnd' [_, _, _] [12,13,14] rfl rfl rfl rfl rfl rfl rfl rfl rfl rfl rfl rfl (fun hb => ?_) ?_; rotate_left
  ·
   (try simp only [hcS] at hb)
   (refine aqP (op_fa_ptr rfl rfl rfl fl37_1 (by exact sz3) (by decide) rfl) ?_)
   (refine aqR (op_load_ptr1 rfl rfl rfl rfl ag3 rfl rfl) ?_)
   refine aqP (op_leq rfl rfl rfl) ?_
   (refine aqSeg rfl rfl rfl ?_; repeat (first | exact fun _ _ => rfl | refine upd_out rfl ?_))
  simp only [nA]
  refine aqP (op_move rfl rfl) ?_
  refine' aqAnd' [_, _, _] [17,18,19] rfl rfl rfl rfl rfl rfl rfl rfl rfl rfl rfl rfl (fun hb => ?_) ?_; rotate_left
  ·
   (try simp only [hcS] at hb)
   (refine aqP (op_fa_ptr rfl rfl rfl fl37_2 (by exact sz3) (by decide) rfl) ?_)
   (refine aqR (op_load_ptr1 rfl rfl rfl rfl ag3 rfl rfl) ?_)
   refine aqP (op_geq rfl rfl rfl) ?_
   (refine aqSeg rfl rfl rfl ?_; repeat (first | exact fun _ _ => rfl | refine upd_out rfl ?_))
  simp only [nA]
  refine aqP (op_move rfl rfl) ?_
  refine' aqAnd' [_, _, _] [22,23,24] rfl rfl rfl rfl rfl rfl rfl rfl rfl rfl rfl rfl (fun hb => ?_) ?_; rotate_left
  ·
   (try simp only [hcS] at hb)
   (refine aqP (op_fa_ptr rfl rfl rfl fl37_2 (by exact sz3) (by decide) rfl) ?_)
   (refine aqR (op_load_ptr1 rfl rfl rfl rfl ag3 rfl rfl) ?_)
   refine aqP (op_leq rfl rfl rfl) ?_
   (refine aqSeg rfl rfl rfl ?_; repeat (first | exact fun _ _ => rfl | refine upd_out rfl ?_))
  simp only [nA]
  refine aqP (op_assign rfl rfl) ?_
  refine AQ.nil ?_
  (refine hK _ ?_; clear hK K; (simp only [nA]))
  skip
  refine AW.ret ?_; (try simp only [thenE, inBlk, Nat.reduceEqDiff, ↓reduceIte]); exact RQ.of0 rfl (.tmp (bl rfl) rfl rfl .nil)
set_option maxHeartbeats 8000000 in
theorem C88 {p : Piece} : Fn Tryz.prog 88 [] [.agg p.av] [.v (.bool (piB p))] [] := by
  rw [← piR_eq]; exact C88r
def opR (o : Op) : Bool := (((((((((decide (o.time ≥ 0) && decide (o.time ≤ 1048576)) && decide (o.device ≥ 1)) && decide (o.device ≤ 6)) && decide (o.seq ≥ 1)) && decide (o.seq ≤ 1048576)) && (decide (o.kind = 1) || decide (o.kind = 2))) && decide (o.cont ≥ 1)) && decide (o.cont ≤ 999))) && piB o.piece
theorem opR_eq (o : Op) : opR o = opB o := by
  unfold opR opB inB
  generalize decide (o.time ≥ 0) = b1
  generalize decide (o.time ≤ 1048576) = b2
  generalize decide (o.device ≥ 1) = b3
  generalize decide (o.device ≤ 6) = b4
  generalize decide (o.seq ≥ 1) = b5
  generalize decide (o.seq ≤ 1048576) = b6
  cases b1 <;> cases b2 <;> cases b3 <;> cases b4 <;> cases b5 <;> cases b6 <;> simp [Bool.and_assoc]
set_option maxHeartbeats 8000000 in
theorem C61r {o : Op} : Fn Tryz.prog 61 [] [.agg o.av] [.v (.bool (opR o))] [] := by
  refine Spec.body Tryz.func61 rfl Tryz.ntmps61 (by simp) rfl ?_; intro S0 own0 v0 w0 gl
  (refine AW.seq_k ?_; intro K hK)
  refine AW.region ?_
  refine awJ (op_box rfl rfl rfl sz39 rfl) ?_; (simp only [nA, Nat.reduceBEq, Nat.reduceEqDiff, ↓reduceIte])
  refine awP (op_assign rfl rfl) ?_
  refine AWL.nil ?_
  (refine hK _ ?_; clear hK K; (try simp only [nA, Nat.reduceBEq, Nat.reduceEqDiff, ↓reduceIte, Nat.reduceAdd, Nat.reduceSub]))
  (refine AW.seq_k ?_; intro K hK)
  refine AW.region (AWL.quiet ?_)
  (refine aqP (op_fa_ptr rfl rfl rfl fl39_0 (by exact sz3) (by decide) rfl) ?_)
  (refine aqR (op_load_ptr1 rfl rfl rfl rfl ag3 rfl rfl) ?_)
  refine aqP (op_geq rfl rfl rfl) ?_
  refine aqP (op_move rfl rfl) ?_
  refine' aqAnd' [_, _, _] [7,8,9] rfl rfl rfl rfl rfl rfl rfl rfl rfl rfl rfl rfl (fun hb => ?_) ?_; rotate_left
  ·
   (try simp only [hcS] at hb)
   (refine aqP (op_fa_ptr rfl rfl rfl fl39_0 (by exact sz3) (by decide) rfl) ?_)
   (refine aqR (op_load_ptr1 rfl rfl rfl rfl ag3 rfl rfl) ?_)
   refine aqP (op_leq rfl rfl rfl) ?_
   (refine aqSeg rfl rfl rfl ?_; repeat (first | exact fun _ _ => rfl | refine upd_out rfl ?_))
  simp only [nA]
  refine aqP (op_move rfl rfl) ?_
  refine' aqAnd' [_, _, _] [12,13,14] rfl rfl rfl rfl rfl rfl rfl rfl rfl rfl rfl rfl (fun hb => ?_) ?_; rotate_left
  ·
   (try simp only [hcS] at hb)
   (refine aqP (op_fa_ptr rfl rfl rfl fl39_1 (by exact sz3) (by decide) rfl) ?_)
   (refine aqR (op_load_ptr1 rfl rfl rfl rfl ag3 rfl rfl) ?_)
   refine aqP (op_geq rfl rfl rfl) ?_
   (refine aqSeg rfl rfl rfl ?_; repeat (first | exact fun _ _ => rfl | refine upd_out rfl ?_))
  simp only [nA]
  refine aqP (op_move rfl rfl) ?_
  refine' aqAnd' [_, _, _] [17,18,19] rfl rfl rfl rfl rfl rfl rfl rfl rfl rfl rfl rfl (fun hb => ?_) ?_; rotate_left
  ·
   (try simp only [hcS] at hb)
   (refine aqP (op_fa_ptr rfl rfl rfl fl39_1 (by exact sz3) (by decide) rfl) ?_)
   (refine aqR (op_load_ptr1 rfl rfl rfl rfl ag3 rfl rfl) ?_)
   refine aqP (op_leq rfl rfl rfl) ?_
   (refine aqSeg rfl rfl rfl ?_; repeat (first | exact fun _ _ => rfl | refine upd_out rfl ?_))
  simp only [nA]
  refine aqP (op_move rfl rfl) ?_
  refine' aqAnd' [_, _, _] [22,23,24] rfl rfl rfl rfl rfl rfl rfl rfl rfl rfl rfl rfl (fun hb => ?_) ?_; rotate_left
  ·
   (try simp only [hcS] at hb)
   (refine aqP (op_fa_ptr rfl rfl rfl fl39_2 (by exact sz3) (by decide) rfl) ?_)
   (refine aqR (op_load_ptr1 rfl rfl rfl rfl ag3 rfl rfl) ?_)
   refine aqP (op_geq rfl rfl rfl) ?_
   (refine aqSeg rfl rfl rfl ?_; repeat (first | exact fun _ _ => rfl | refine upd_out rfl ?_))
  simp only [nA]
  refine aqP (op_move rfl rfl) ?_
  refine' aqAnd' [_, _, _] [27,28,29] rfl rfl rfl rfl rfl rfl rfl rfl rfl rfl rfl rfl (fun hb => ?_) ?_; rotate_left
  ·
   (try simp only [hcS] at hb)
   (refine aqP (op_fa_ptr rfl rfl rfl fl39_2 (by exact sz3) (by decide) rfl) ?_)
   (refine aqR (op_load_ptr1 rfl rfl rfl rfl ag3 rfl rfl) ?_)
   refine aqP (op_leq rfl rfl rfl) ?_
   (refine aqSeg rfl rfl rfl ?_; repeat (first | exact fun _ _ => rfl | refine upd_out rfl ?_))
  simp only [nA]
  refine aqP (op_move rfl rfl) ?_
  refine' aqAndN' [_, _, _, _, _, _, _, _] [32,33,34,35,36,37,38,39] rfl rfl rfl rfl rfl rfl rfl rfl rfl rfl rfl rfl (fun hb => ?_) ?_; rotate_left
  ·
   (try simp only [hcS] at hb)
   (refine aqP (op_fa_ptr rfl rfl rfl fl39_3 (by exact sz3) (by decide) rfl) ?_)
   (refine aqR (op_load_ptr1 rfl rfl rfl rfl ag3 rfl rfl) ?_)
   (refine aqP (op_eql rfl rfl rfl) ?_)
   refine aqP (op_move rfl rfl) ?_
   refine' aqOr' [_, _, _] [36,37,38] rfl rfl rfl rfl rfl rfl rfl rfl rfl rfl rfl rfl (fun hb => ?_) ?_; rotate_left
   ·
    (try simp only [hcS] at hb)
    (refine aqP (op_fa_ptr rfl rfl rfl fl39_3 (by exact sz3) (by decide) rfl) ?_)
    (refine aqR (op_load_ptr1 rfl rfl rfl rfl ag3 rfl rfl) ?_)
    (refine aqP (op_eql rfl rfl rfl) ?_)
    (refine aqSeg rfl rfl rfl ?_; repeat (first | exact fun _ _ => rfl | refine upd_out rfl ?_))
   simp only [nA]
   (refine aqSeg rfl rfl rfl ?_; repeat (first | exact fun _ _ => rfl | refine upd_out rfl ?_ | refine era_out rfl ?_))
  simp only [nA]
  refine aqP (op_move rfl rfl) ?_
  refine' aqAnd' [_, _, _] [42,43,44] rfl rfl rfl rfl rfl rfl rfl rfl rfl rfl rfl rfl (fun hb => ?_) ?_; rotate_left
  ·
   (try simp only [hcS] at hb)
   (refine aqP (op_fa_ptr rfl rfl rfl fl39_4 (by exact sz3) (by decide) rfl) ?_)
   (refine aqR (op_load_ptr1 rfl rfl rfl rfl ag3 rfl rfl) ?_)
   refine aqP (op_geq rfl rfl rfl) ?_
   (refine aqSeg rfl rfl rfl ?_; repeat (first | exact fun _ _ => rfl | refine upd_out rfl ?_))
  simp only [nA]
  refine aqP (op_move rfl rfl) ?_
  refine' aqAnd' [_, _, _] [47,48,49] rfl rfl rfl rfl rfl rfl rfl rfl rfl rfl rfl rfl (fun hb => ?_) ?_; rotate_left
  ·
   (try simp only [hcS] at hb)
   (refine aqP (op_fa_ptr rfl rfl rfl fl39_4 (by exact sz3) (by decide) rfl) ?_)
   (refine aqR (op_load_ptr1 rfl rfl rfl rfl ag3 rfl rfl) ?_)
   refine aqP (op_leq rfl rfl rfl) ?_
   (refine aqSeg rfl rfl rfl ?_; repeat (first | exact fun _ _ => rfl | refine upd_out rfl ?_))
  simp only [nA]
  refine aqP (op_move rfl rfl) ?_
  refine' aqAnd' [_, _, _] [52,53,54] rfl rfl rfl rfl rfl rfl rfl rfl rfl rfl rfl rfl (fun hb => ?_) ?_; rotate_left
  ·
   (try simp only [hcS] at hb)
   (refine aqP (op_fa_ptr rfl rfl rfl fl39_5 (by exact sz37) (by decide) rfl) ?_)
   (refine aqR (op_load_ptr rfl rfl rfl rfl ag37 sz37 (bl rfl) rfl) ?_)
   refine aqQ (op_callQ (b := true) rfl en88 (C88 (p := o.piece)) (RL.cons (by exact View.same rfl) (RL.nil)) rfl) ?_; (simp only [nA])
   (refine aqSeg rfl rfl rfl ?_; repeat (first | exact fun _ _ => rfl | refine upd_out rfl ?_))
  simp only [nA]
  refine aqP (op_assign rfl rfl) ?_
  refine AQ.nil ?_
  (refine hK _ ?_; clear hK K; (simp only [nA]))
  skip
  refine AW.ret ?_; (try simp only [thenE, inBlk, Nat.reduceEqDiff, ↓reduceIte]); exact RQ.of0 rfl (.tmp (bl rfl) rfl rfl .nil)
set_option maxHeartbeats 8000000 in
theorem C61 {o : Op} : Fn Tryz.prog 61 [] [.agg o.av] [.v (.bool (opB o))] [] := by
  rw [← opR_eq]; exact C61r
end Go.Proofs.YtfmnaigedgmhoaaGreatDoor
namespace Go.Proofs.YtfmnaigedgmhoaaGreatDoor
open Go.RowKit
set_option linter.unusedSimpArgs false
set_option linter.unusedVariables false
set_option maxRecDepth 100000
theorem ite_ok {p : Prop} [Decidable p] {b : Bool} {w : World} : (if p then Result.ok (Value.bool b) w else Result.ok (Value.bool false) w) = Result.ok (Value.bool (decide p && b)) w := by
  by_cases h : p <;> simp [h]
theorem ite_no {p : Prop} [Decidable p] {b : Bool} {w : World} : (if p then Result.ok (Value.bool b) w else Result.ok (Value.bool true) w) = Result.ok (Value.bool (!decide p || b)) w := by
  by_cases h : p <;> simp [h]
theorem str_eq (a b : ByteArray) : a.toList = b.toList ↔ a = b := by
  rw [bytes_eq, bytes_eq]
  exact ⟨fun h => bytes_ext h, fun h => by rw [h]⟩
def plEq (p q : Plate) : Bool := (p.lead == q.lead) && ((p.airline == q.airline) && ((p.serial == q.serial)))
abbrev Plate.vs (p : Plate) : List Value := [.int .i64 p.lead, .int .i64 p.airline, .int .i64 p.serial]
theorem run_eql30 (p q : Plate) (w : World) : (binOp .eql 30 (.agg p.vs.toArray) (.agg q.vs.toArray)).run Tryz.prog w = .ok (.bool (plEq p q)) w := by
  obtain ⟨a, b, c⟩ := p
  obtain ⟨a', b', c'⟩ := q
  unfold binOp
  simp only [Op.equal]
  rw [Sem.run_bind, show Op.maxDepth = 9998 + 1 + 1 from rfl, run_equalIn_struct w _ 30 _ _ fo30 st30]
  unfold Program.fieldsOf; rw [Tryz.underlying30]
  simp only [Op.eqFields]
  go_simp
  simp only [ite_ok]
  unfold plEq
  simp [Bool.and_assoc, Bool.beq_eq_decide_eq]
theorem run_tyeql23 (p q : Operand) (x y : Array Value) (w : World) : (eqGuard .eql 30 p q (.agg x) (.agg y)).run Tryz.prog w = .ok () w := by
  unfold eqGuard
  simp [ty30, run_program]
theorem run_neq30 (p q : Plate) (w : World) : (binOp .neq 30 (.agg p.vs.toArray) (.agg q.vs.toArray)).run Tryz.prog w = .ok (.bool (!plEq p q)) w := by
  obtain ⟨a, b, c⟩ := p
  obtain ⟨a', b', c'⟩ := q
  unfold binOp
  simp only [Op.equal]
  rw [Sem.run_bind, show Op.maxDepth = 9998 + 1 + 1 from rfl, run_equalIn_struct w _ 30 _ _ fo30 st30]
  unfold Program.fieldsOf; rw [Tryz.underlying30]
  simp only [Op.eqFields]
  go_simp
  simp only [ite_no]
  unfold plEq
  simp [Bool.and_assoc, Bool.beq_eq_decide_eq]
theorem run_tyneq23 (p q : Operand) (x y : Array Value) (w : World) : (eqGuard .neq 30 p q (.agg x) (.agg y)).run Tryz.prog w = .ok () w := by
  unfold eqGuard
  simp [ty30, run_program]
theorem plEq_iff (p q : Plate) : plEq p q = true ↔ p = q := by
  obtain ⟨a, b, c⟩ := p
  obtain ⟨a', b', c'⟩ := q
  unfold plEq
  simp only [Bool.and_eq_true, beq_iff_eq, str_eq, Plate.mk.injEq, and_assoc]
theorem st33 : Tryz.prog.stoodInHeld 33 = false := by kernel_rfl
theorem fo33 : Tryz.prog.underlying 33 = some (.struct (Tryz.prog.fieldsOf 33)) := by
  unfold Program.fieldsOf; rw [Tryz.underlying33]
theorem ty33 : Tryz.prog.eqGuardType Tryz.prog.depth 33 = false := by kernel_rfl
def flEq (p q : Flight) : Bool := (p.carrier.toList == q.carrier.toList) && ((p.number == q.number) && ((p.suffix.toList == q.suffix.toList) && ((p.day == q.day))))
abbrev Flight.vs (p : Flight) : List Value := [.string p.carrier, .int .i64 p.number, .string p.suffix, .int .i64 p.day]
theorem run_eql33 (p q : Flight) (w : World) : (binOp .eql 33 (.agg p.vs.toArray) (.agg q.vs.toArray)).run Tryz.prog w = .ok (.bool (flEq p q)) w := by
  obtain ⟨a, b, c, d⟩ := p
  obtain ⟨a', b', c', d'⟩ := q
  unfold binOp
  simp only [Op.equal]
  rw [Sem.run_bind, show Op.maxDepth = 9998 + 1 + 1 from rfl, run_equalIn_struct w _ 33 _ _ fo33 st33]
  unfold Program.fieldsOf; rw [Tryz.underlying33]
  simp only [Op.eqFields]
  go_simp
  simp only [ite_ok]
  unfold flEq
  simp [Bool.and_assoc, Bool.beq_eq_decide_eq]
theorem run_tyeql26 (p q : Operand) (x y : Array Value) (w : World) : (eqGuard .eql 33 p q (.agg x) (.agg y)).run Tryz.prog w = .ok () w := by
  unfold eqGuard
  simp [ty33, run_program]
theorem run_neq33 (p q : Flight) (w : World) : (binOp .neq 33 (.agg p.vs.toArray) (.agg q.vs.toArray)).run Tryz.prog w = .ok (.bool (!flEq p q)) w := by
  obtain ⟨a, b, c, d⟩ := p
  obtain ⟨a', b', c', d'⟩ := q
  unfold binOp
  simp only [Op.equal]
  rw [Sem.run_bind, show Op.maxDepth = 9998 + 1 + 1 from rfl, run_equalIn_struct w _ 33 _ _ fo33 st33]
  unfold Program.fieldsOf; rw [Tryz.underlying33]
  simp only [Op.eqFields]
  go_simp
  simp only [ite_no]
  unfold flEq
  simp [Bool.and_assoc, Bool.beq_eq_decide_eq]
theorem run_tyneq26 (p q : Operand) (x y : Array Value) (w : World) : (eqGuard .neq 33 p q (.agg x) (.agg y)).run Tryz.prog w = .ok () w := by
  unfold eqGuard
  simp [ty33, run_program]
theorem flEq_iff (p q : Flight) : flEq p q = true ↔ p = q := by
  obtain ⟨a, b, c, d⟩ := p
  obtain ⟨a', b', c', d'⟩ := q
  unfold flEq
  simp only [Bool.and_eq_true, beq_iff_eq, str_eq, Flight.mk.injEq, and_assoc]
theorem st35 : Tryz.prog.stoodInHeld 35 = false := by kernel_rfl
theorem fo35 : Tryz.prog.underlying 35 = some (.struct (Tryz.prog.fieldsOf 35)) := by
  unfold Program.fieldsOf; rw [Tryz.underlying35]
theorem ty35 : Tryz.prog.eqGuardType Tryz.prog.depth 35 = false := by kernel_rfl
def rvEq (p q : Rev) : Bool := (p.kind == q.kind) && ((p.amount == q.amount) && ((p.fl.carrier.toList == q.fl.carrier.toList) && ((p.fl.number == q.fl.number) && ((p.fl.suffix.toList == q.fl.suffix.toList) && ((p.fl.day == q.fl.day))))))
abbrev Rev.vs (p : Rev) : List Value := [.int .i64 p.kind, .int .i64 p.amount, .string p.fl.carrier, .int .i64 p.fl.number, .string p.fl.suffix, .int .i64 p.fl.day]
theorem run_eql35 (p q : Rev) (w : World) : (binOp .eql 35 (.agg p.vs.toArray) (.agg q.vs.toArray)).run Tryz.prog w = .ok (.bool (rvEq p q)) w := by
  obtain ⟨a, b, ⟨c, d, e, f⟩⟩ := p
  obtain ⟨a', b', ⟨c', d', e', f'⟩⟩ := q
  unfold binOp
  simp only [Op.equal]
  rw [Sem.run_bind, show Op.maxDepth = 9997 + 1 + 1 + 1 from rfl, run_equalIn_struct w _ 35 _ _ fo35 st35]
  unfold Program.fieldsOf; rw [Tryz.underlying35]
  simp only [Op.eqFields]
  go_simp
  simp only [ite_ok]
  unfold rvEq
  simp [Bool.and_assoc, Bool.beq_eq_decide_eq]
theorem run_tyeql28 (p q : Operand) (x y : Array Value) (w : World) : (eqGuard .eql 35 p q (.agg x) (.agg y)).run Tryz.prog w = .ok () w := by
  unfold eqGuard
  simp [ty35, run_program]
theorem run_neq35 (p q : Rev) (w : World) : (binOp .neq 35 (.agg p.vs.toArray) (.agg q.vs.toArray)).run Tryz.prog w = .ok (.bool (!rvEq p q)) w := by
  obtain ⟨a, b, ⟨c, d, e, f⟩⟩ := p
  obtain ⟨a', b', ⟨c', d', e', f'⟩⟩ := q
  unfold binOp
  simp only [Op.equal]
  rw [Sem.run_bind, show Op.maxDepth = 9997 + 1 + 1 + 1 from rfl, run_equalIn_struct w _ 35 _ _ fo35 st35]
  unfold Program.fieldsOf; rw [Tryz.underlying35]
  simp only [Op.eqFields]
  go_simp
  simp only [ite_no]
  unfold rvEq
  simp [Bool.and_assoc, Bool.beq_eq_decide_eq]
theorem run_tyneq28 (p q : Operand) (x y : Array Value) (w : World) : (eqGuard .neq 35 p q (.agg x) (.agg y)).run Tryz.prog w = .ok () w := by
  unfold eqGuard
  simp [ty35, run_program]
theorem rvEq_iff (p q : Rev) : rvEq p q = true ↔ p = q := by
  obtain ⟨a, b, ⟨c, d, e, f⟩⟩ := p
  obtain ⟨a', b', ⟨c', d', e', f'⟩⟩ := q
  unfold rvEq
  simp only [Bool.and_eq_true, beq_iff_eq, str_eq, Rev.mk.injEq, Flight.mk.injEq, and_assoc]
theorem st39 : Tryz.prog.stoodInHeld 39 = false := by kernel_rfl
theorem fo39 : Tryz.prog.underlying 39 = some (.struct (Tryz.prog.fieldsOf 39)) := by
  unfold Program.fieldsOf; rw [Tryz.underlying39]
theorem ty39 : Tryz.prog.eqGuardType Tryz.prog.depth 39 = false := by kernel_rfl
def opEq (p q : Op) : Bool := (p.time == q.time) && ((p.device == q.device) && ((p.seq == q.seq) && ((p.kind == q.kind) && ((p.cont == q.cont) && ((p.piece.plate.lead == q.piece.plate.lead) && ((p.piece.plate.airline == q.piece.plate.airline) && ((p.piece.plate.serial == q.piece.plate.serial) && ((p.piece.weight == q.piece.weight) && ((p.piece.category == q.piece.category))))))))))
abbrev Op.vs (p : Op) : List Value := [.int .i64 p.time, .int .i64 p.device, .int .i64 p.seq, .int .i64 p.kind, .int .i64 p.cont, .int .i64 p.piece.plate.lead, .int .i64 p.piece.plate.airline, .int .i64 p.piece.plate.serial, .int .i64 p.piece.weight, .int .i64 p.piece.category]
theorem run_eql39 (p q : Op) (w : World) : (binOp .eql 39 (.agg p.vs.toArray) (.agg q.vs.toArray)).run Tryz.prog w = .ok (.bool (opEq p q)) w := by
  obtain ⟨a, b, c, d, e, ⟨⟨f, g, h⟩, i, j⟩⟩ := p
  obtain ⟨a', b', c', d', e', ⟨⟨f', g', h'⟩, i', j'⟩⟩ := q
  unfold binOp
  simp only [Op.equal]
  rw [Sem.run_bind, show Op.maxDepth = 9996 + 1 + 1 + 1 + 1 from rfl, run_equalIn_struct w _ 39 _ _ fo39 st39]
  unfold Program.fieldsOf; rw [Tryz.underlying39]
  simp only [Op.eqFields]
  go_simp
  simp only [ite_ok]
  unfold opEq
  simp [Bool.and_assoc, Bool.beq_eq_decide_eq]
theorem run_tyeql32 (p q : Operand) (x y : Array Value) (w : World) : (eqGuard .eql 39 p q (.agg x) (.agg y)).run Tryz.prog w = .ok () w := by
  unfold eqGuard
  simp [ty39, run_program]
theorem run_neq39 (p q : Op) (w : World) : (binOp .neq 39 (.agg p.vs.toArray) (.agg q.vs.toArray)).run Tryz.prog w = .ok (.bool (!opEq p q)) w := by
  obtain ⟨a, b, c, d, e, ⟨⟨f, g, h⟩, i, j⟩⟩ := p
  obtain ⟨a', b', c', d', e', ⟨⟨f', g', h'⟩, i', j'⟩⟩ := q
  unfold binOp
  simp only [Op.equal]
  rw [Sem.run_bind, show Op.maxDepth = 9996 + 1 + 1 + 1 + 1 from rfl, run_equalIn_struct w _ 39 _ _ fo39 st39]
  unfold Program.fieldsOf; rw [Tryz.underlying39]
  simp only [Op.eqFields]
  go_simp
  simp only [ite_no]
  unfold opEq
  simp [Bool.and_assoc, Bool.beq_eq_decide_eq]
theorem run_tyneq32 (p q : Operand) (x y : Array Value) (w : World) : (eqGuard .neq 39 p q (.agg x) (.agg y)).run Tryz.prog w = .ok () w := by
  unfold eqGuard
  simp [ty39, run_program]
theorem opEq_iff (p q : Op) : opEq p q = true ↔ p = q := by
  obtain ⟨a, b, c, d, e, ⟨⟨f, g, h⟩, i, j⟩⟩ := p
  obtain ⟨a', b', c', d', e', ⟨⟨f', g', h'⟩, i', j'⟩⟩ := q
  unfold opEq
  simp only [Bool.and_eq_true, beq_iff_eq, str_eq, Op.mk.injEq, Piece.mk.injEq, Plate.mk.injEq, and_assoc]
theorem st60 : Tryz.prog.stoodInHeld 60 = false := by kernel_rfl
theorem fo60 : Tryz.prog.underlying 60 = some (.struct (Tryz.prog.fieldsOf 60)) := by
  unfold Program.fieldsOf; rw [Tryz.underlying60]
theorem ty60 : Tryz.prog.eqGuardType Tryz.prog.depth 60 = false := by kernel_rfl
def rpEq (p q : Report) : Bool := (p.device == q.device) && ((p.seen == q.seen) && ((p.read.toList == q.read.toList)))
abbrev Report.vs (p : Report) : List Value := [.int .i64 p.device, .bool p.seen, .string p.read]
theorem run_neq60 (p q : Report) (w : World) : (binOp .neq 60 (.agg p.vs.toArray) (.agg q.vs.toArray)).run Tryz.prog w = .ok (.bool (!rpEq p q)) w := by
  obtain ⟨a, b, c⟩ := p
  obtain ⟨a', b', c'⟩ := q
  unfold binOp
  simp only [Op.equal]
  rw [Sem.run_bind, show Op.maxDepth = 9998 + 1 + 1 from rfl, run_equalIn_struct w _ 60 _ _ fo60 st60]
  unfold Program.fieldsOf; rw [Tryz.underlying60]
  simp only [Op.eqFields]
  go_simp
  simp only [ite_no]
  unfold rpEq
  simp [Bool.and_assoc, Bool.beq_eq_decide_eq]
theorem run_tyneq66 (p q : Operand) (x y : Array Value) (w : World) : (eqGuard .neq 60 p q (.agg x) (.agg y)).run Tryz.prog w = .ok () w := by
  unfold eqGuard
  simp [ty60, run_program]
theorem rpEq_iff (p q : Report) : rpEq p q = true ↔ p = q := by
  obtain ⟨a, b, c⟩ := p
  obtain ⟨a', b', c'⟩ := q
  unfold rpEq
  simp only [Bool.and_eq_true, beq_iff_eq, str_eq, Report.mk.injEq, and_assoc]
section
variable {S0 : Nat → Prop} {own0 : List Nat} {v0 : List Value} {w0 : World} {gl : Glb Tryz.prog (fun k => S0 k ∧ k ∉ own0) w0} {o : Oper} {ev : Operand → AV} {T : Sl} {yt : TypeId} {y z : Operand}
theorem op_eqP23 {p q : Plate} (ho : o.op = .binOp .eql 30 y z yt) (hy : ev y = .agg p.av) (hz : ev z = .agg q.av) : OpP ⟨Tryz.prog, S0, own0, v0, w0, gl⟩ o ev T (.v (.bool (plEq p q))) :=
  op_bin_agg (xs := p.vs) (ys := q.vs) ho hy hz (fun w => run_tyeql23 _ _ _ _ w) (fun w => run_eql30 p q w) rfl
theorem op_neqP23 {p q : Plate} (ho : o.op = .binOp .neq 30 y z yt) (hy : ev y = .agg p.av) (hz : ev z = .agg q.av) : OpP ⟨Tryz.prog, S0, own0, v0, w0, gl⟩ o ev T (.v (.bool (!plEq p q))) :=
  op_bin_agg (xs := p.vs) (ys := q.vs) ho hy hz (fun w => run_tyneq23 _ _ _ _ w) (fun w => run_neq30 p q w) rfl
theorem op_eq33 {p q : Flight} (ho : o.op = .binOp .eql 33 y z yt) (hy : ev y = .agg p.av) (hz : ev z = .agg q.av) : OpP ⟨Tryz.prog, S0, own0, v0, w0, gl⟩ o ev T (.v (.bool (flEq p q))) :=
  op_bin_agg (xs := p.vs) (ys := q.vs) ho hy hz (fun w => run_tyeql26 _ _ _ _ w) (fun w => run_eql33 p q w) rfl
theorem op_neq33 {p q : Flight} (ho : o.op = .binOp .neq 33 y z yt) (hy : ev y = .agg p.av) (hz : ev z = .agg q.av) : OpP ⟨Tryz.prog, S0, own0, v0, w0, gl⟩ o ev T (.v (.bool (!flEq p q))) :=
  op_bin_agg (xs := p.vs) (ys := q.vs) ho hy hz (fun w => run_tyneq26 _ _ _ _ w) (fun w => run_neq33 p q w) rfl
theorem op_eq35 {p q : Rev} (ho : o.op = .binOp .eql 35 y z yt) (hy : ev y = .agg p.av) (hz : ev z = .agg q.av) : OpP ⟨Tryz.prog, S0, own0, v0, w0, gl⟩ o ev T (.v (.bool (rvEq p q))) :=
  op_bin_agg (xs := p.vs) (ys := q.vs) ho hy hz (fun w => run_tyeql28 _ _ _ _ w) (fun w => run_eql35 p q w) rfl
theorem op_neq35 {p q : Rev} (ho : o.op = .binOp .neq 35 y z yt) (hy : ev y = .agg p.av) (hz : ev z = .agg q.av) : OpP ⟨Tryz.prog, S0, own0, v0, w0, gl⟩ o ev T (.v (.bool (!rvEq p q))) :=
  op_bin_agg (xs := p.vs) (ys := q.vs) ho hy hz (fun w => run_tyneq28 _ _ _ _ w) (fun w => run_neq35 p q w) rfl
theorem op_eq39 {p q : Op} (ho : o.op = .binOp .eql 39 y z yt) (hy : ev y = .agg p.av) (hz : ev z = .agg q.av) : OpP ⟨Tryz.prog, S0, own0, v0, w0, gl⟩ o ev T (.v (.bool (opEq p q))) :=
  op_bin_agg (xs := p.vs) (ys := q.vs) ho hy hz (fun w => run_tyeql32 _ _ _ _ w) (fun w => run_eql39 p q w) rfl
theorem op_neq39 {p q : Op} (ho : o.op = .binOp .neq 39 y z yt) (hy : ev y = .agg p.av) (hz : ev z = .agg q.av) : OpP ⟨Tryz.prog, S0, own0, v0, w0, gl⟩ o ev T (.v (.bool (!opEq p q))) :=
  op_bin_agg (xs := p.vs) (ys := q.vs) ho hy hz (fun w => run_tyneq32 _ _ _ _ w) (fun w => run_neq39 p q w) rfl
theorem op_neq60 {p q : Report} (ho : o.op = .binOp .neq 60 y z yt) (hy : ev y = .agg p.av) (hz : ev z = .agg q.av) : OpP ⟨Tryz.prog, S0, own0, v0, w0, gl⟩ o ev T (.v (.bool (!rpEq p q))) :=
  op_bin_agg (xs := p.vs) (ys := q.vs) ho hy hz (fun w => run_tyneq66 _ _ _ _ w) (fun w => run_neq60 p q w) rfl
end
end Go.Proofs.YtfmnaigedgmhoaaGreatDoor
namespace Go.Proofs.YtfmnaigedgmhoaaGreatDoor
open Go.RowKit
set_option linter.unusedSimpArgs false
set_option linter.unusedVariables false
set_option maxRecDepth 100000
instance : Inhabited Op := ⟨⟨0, 0, 0, 0, 0, default⟩⟩
instance : Inhabited Report := ⟨⟨0, false, emptyS⟩⟩
theorem all_range_no {n i : Nat} {f : Nat → Bool} (h : i < n) (hf : f i = false) : (List.range n).all f = false := by
  rw [List.all_eq_false]
  exact ⟨i, List.mem_range.2 h, by rw [hf]; simp⟩
theorem all_range_yes {n i : Nat} {f : Nat → Bool} (h : ¬ i < n) (hf : ∀ k, k < i → f k = true) : (List.range n).all f = true := by
  rw [List.all_eq_true]
  intro k hk
  exact hf k (by have := List.mem_range.1 hk; omega)
theorem all_b_step {f : Nat → Bool} {i : Nat} (h : ∀ k, k < i → f k = true) (h2 : f i = true) : ∀ k, k < i + 1 → f k = true := fun k hk => by
  by_cases e : k = i
  · rw [e, h2]
  exact h k (by omega)
theorem all_f_step {f : Nat → Bool} {i : Nat} (h : ∀ k, k < i → f k = false) (h2 : f i = false) : ∀ k, k < i + 1 → f k = false := fun k hk => by
  by_cases e : k = i
  · rw [e, h2]
  exact h k (by omega)
def idxI {α : Type} (p : α → Bool) (l : List α) : Int := if l.findIdx p < l.length then (l.findIdx p : Int) else -1
theorem getD_of {α : Type} [Inhabited α] {l : List α} {i : Nat} (h : i < l.length) : l.getD i default = l[i] := by
  rw [List.getD_eq_getElem?_getD, List.getElem?_eq_getElem h]; rfl
theorem idx_yes {α : Type} [Inhabited α] {p : α → Bool} {l : List α} {i : Nat} (hi : i < l.length) (hn : ∀ k, k < i → p (l.getD k default) = false) (hp : p (l.getD i default) = true) : idxI p l = i := by
  have e : l.findIdx p = i := (List.findIdx_eq hi).2 ⟨by rw [← getD_of hi]; exact hp, fun j hj => by
    have := hn j hj
    rw [getD_of (by omega)] at this
    exact this⟩
  unfold idxI
  rw [e, if_pos hi]
theorem idx_no {α : Type} [Inhabited α] {p : α → Bool} {l : List α} {i : Nat} (hi : ¬ i < l.length) (hn : ∀ k, k < i → p (l.getD k default) = false) : idxI p l = -1 := by
  unfold idxI
  rw [if_neg]
  intro h
  have := List.findIdx_getElem (w := h)
  have h2 := hn (l.findIdx p) (by omega)
  rw [getD_of h] at h2
  rw [h2] at this
  cases this
def listEq {α : Type} [Inhabited α] (eq : α → α → Bool) (a b : List α) : Bool := decide ((a.length : Int) = b.length) && (List.range a.length).all fun i => eq (a.getD i default) (b.getD i default)
theorem le_ne {α : Type} [Inhabited α] {eq : α → α → Bool} {a b : List α} (h : (!decide ((a.length : Int) = b.length)) = true) : listEq eq a b = false := by
  unfold listEq
  rw [show decide ((a.length : Int) = b.length) = false by simpa using h, Bool.false_and]
theorem le_no {α : Type} [Inhabited α] {eq : α → α → Bool} {a b : List α} {i : Nat} (hi : i < a.length) (h : (!eq (a.getD i default) (b.getD i default)) = true) : listEq eq a b = false := by
  unfold listEq
  rw [all_range_no hi (by simpa using h), Bool.and_false]
theorem le_yes {α : Type} [Inhabited α] {eq : α → α → Bool} {a b : List α} {i : Nat} (he : (!decide ((a.length : Int) = b.length)) = false) (hi : ¬ i < a.length) (h : ∀ k, k < i → eq (a.getD k default) (b.getD k default) = true) : listEq eq a b = true := by
  unfold listEq
  rw [all_range_yes hi h, Bool.and_true]
  simpa using he
theorem listEq_iff {α : Type} [Inhabited α] {eq : α → α → Bool} (he : ∀ x y, eq x y = true ↔ x = y) (a b : List α) : listEq eq a b = true ↔ a = b := by
  unfold listEq
  rw [Bool.and_eq_true, decide_eq_true_eq, List.all_eq_true]
  constructor
  · rintro ⟨h1, h2⟩
    refine List.ext_getElem (by omega) fun i hi hj => ?_
    have := (he _ _).1 (h2 i (List.mem_range.2 hi))
    rw [getD_of hi, getD_of hj] at this
    exact this
  rintro rfl
  exact ⟨rfl, fun i _ => (he _ _).2 rfl⟩
set_option maxHeartbeats 8000000 in
theorem C90 {a b : List Report} (h1 : a.length ≤ 1000000) : Fn Tryz.prog 90 [] [.ro (a.map Report.av), .ro (b.map Report.av)] [.v (.bool (listEq rpEq a b))] [] := by
  refine Spec.body Tryz.func90 rfl Tryz.ntmps90 (by simp) rfl ?_; intro S0 own0 v0 w0 gl
  (refine AW.seq_k ?_; intro K hK)
  refine AW.region ?_
  refine awP (op_assign rfl rfl) ?_
  refine AWL.nil ?_
  (refine hK _ ?_; clear hK K; (try simp only [nA, Nat.reduceBEq, Nat.reduceEqDiff, ↓reduceIte, Nat.reduceAdd, Nat.reduceSub]))
  (refine AW.seq_k ?_; intro K hK)
  (refine AW.seq_k ?_; intro K hK)
  refine AW.region ?_
  refine awP (op_move rfl rfl) ?_
  refine awP (op_len_ro (n := a.length) rfl rfl Tryz.underlying31 (.inr (.inl ⟨_, rfl, by simp⟩))) ?_
  refine awP (op_move rfl rfl) ?_
  refine awP (op_len_ro (n := b.length) rfl rfl Tryz.underlying31 (.inr (.inl ⟨_, rfl, by simp⟩))) ?_
  (refine awP (op_neq rfl rfl rfl) ?_)
  refine AWL.nil ?_
  (refine hK _ ?_; clear hK K; (simp only [nA, ↓reduceIte]))
  refine AW.cond rfl rfl rfl (fun hc => ?_) (fun hc => ?_)
  ·
   have hc1 := hc
   (refine AW.seq_k ?_; intro K hK)
   refine AW.region ?_
   refine awP (op_assign rfl rfl) ?_
   refine AWL.nil ?_
   (refine hK _ ?_; clear hK K; (try simp only [nA, Nat.reduceBEq, Nat.reduceEqDiff, ↓reduceIte, Nat.reduceAdd, Nat.reduceSub]))
   skip
   refine AW.ret ?_; (try simp only [thenE, inBlk, Nat.reduceEqDiff, ↓reduceIte]); rw [le_ne hc1]; exact RQ.of0 rfl (.tmp (bl rfl) rfl rfl .nil)
  have hc1 := hc; have hle : a.length = b.length := (by have e : (a.length : Int) = b.length := (by simpa using hc1); omega)
  refine AW.skip ?_
  (refine hK _ ?_; clear hK K; (skip))
  (refine AW.seq_k ?_; intro K hK)
  (refine AW.seq_k ?_; intro K hK)
  refine AW.region ?_
  refine awP (op_move rfl rfl) ?_
  refine awP (op_len_ro (n := a.length) rfl rfl Tryz.underlying31 (.inr (.inl ⟨_, rfl, by simp⟩))) ?_
  refine awP (op_move rfl rfl) ?_
  refine AWL.nil ?_
  (refine hK _ ?_; clear hK K; (simp only [nA, ↓reduceIte]))
  refine AW.block ?_
  refine AW.loopI (fun i => [(0, .ro (a.map Report.av)), (1, .ro (b.map Report.av)), (12, .v (.int .i64 a.length)), (13, .v (.int .i64 (i : Nat)))]) (fun i => ⟨[], 1⟩) (fun i => i ≤ a.length ∧ ∀ k, k < i → rpEq (a.getD k default) (b.getD k default) = true) (fun i => a.length - i) 0 (by simp) ⟨rfl, rfl, rfl, rfl, trivial⟩ rfl ?_; intro i ρ hi; simp only [updL]
  (refine AW.seq_k ?_; intro K hK)
  refine AW.region ?_
  refine awP (op_lss rfl rfl rfl) ?_
  refine AWL.nil ?_
  (refine hK _ ?_; clear hK K; (try simp only [nA, Nat.reduceBEq, Nat.reduceEqDiff, ↓reduceIte, Nat.reduceAdd, Nat.reduceSub]))
  (refine AW.seq_k ?_; intro K hK)
  refine AW.cond rfl rfl rfl (fun hc => ?_) (fun hc => ?_)
  ·
   have hc2 := hc; have hlt : i < a.length := (by simpa using hc2)
   refine AW.skip ?_
   (refine hK _ ?_; clear hK K; (skip))
   (refine AW.seq_k ?_; intro K hK)
   refine AW.block ?_
   (refine AW.seq_k ?_; intro K hK)
   refine AW.region ?_
   refine awP (op_move rfl rfl) ?_
   refine awP (op_assign rfl rfl) ?_
   refine AWL.nil ?_
   (refine hK _ ?_; clear hK K; (simp only [nA, ↓reduceIte]))
   (refine AW.seq_k ?_; intro K hK)
   refine AW.quiet mix (by kernel_rfl) ?_
   refine aqP (op_move rfl rfl) ?_
   refine aqP (op_move rfl rfl) ?_
   refine aqP (op_ia_ro i rfl (.inl rfl) rfl Tryz.underlying31 rfl (get_mapD (by omega)) (by exact sz60) (bl rfl)) ?_
   (refine aqR (op_load_rop rfl rfl ag60 sz60 (bl rfl) (by decide) rfl) ?_)
   refine aqP (op_move rfl rfl) ?_
   refine aqP (op_move rfl rfl) ?_
   refine aqP (op_ia_ro i rfl (.inl rfl) rfl Tryz.underlying31 rfl (get_mapD (by omega)) (by exact sz60) (bl rfl)) ?_
   (refine aqR (op_load_rop rfl rfl ag60 sz60 (bl rfl) (by decide) rfl) ?_)
   refine aqP (op_neq60 (p := a.getD i default) (q := b.getD i default) rfl rfl rfl) ?_; (simp only [nA, ↓reduceIte])
   refine AQ.nil ?_
   (refine hK _ ?_; clear hK K; (skip))
   refine AW.cond rfl rfl rfl (fun hc => ?_) (fun hc => ?_)
   ·
    have hc3 := hc
    (refine AW.seq_k ?_; intro K hK)
    refine AW.region ?_
    refine awP (op_assign rfl rfl) ?_
    refine AWL.nil ?_
    (refine hK _ ?_; clear hK K; (try simp only [nA, Nat.reduceBEq, Nat.reduceEqDiff, ↓reduceIte, Nat.reduceAdd, Nat.reduceSub]))
    skip
    refine AW.ret ?_; (try simp only [thenE, inBlk, Nat.reduceEqDiff, ↓reduceIte]); rw [le_no hlt hc3]; exact RQ.of0 rfl (.tmp (bl rfl) rfl rfl .nil)
   have hc3 := hc
   refine AW.skip ?_
   (try simp only [thenE, inBlk, Nat.reduceEqDiff, ↓reduceIte])
   (refine hK _ ?_; clear hK K; (skip))
   refine AW.region ?_
   (refine awP (op_addi rfl rfl rfl (by omega)) ?_)
   refine awP (op_move rfl rfl) ?_
   skip
   refine AWL.nil ?_
   refine ⟨i + 1, ⟨by omega, all_b_step hi.2 (by simpa using hc3)⟩, by omega, ⟨rfl, rfl, rfl, rfl, trivial⟩, (by rfl), (by rfl)⟩
  have hc2 := hc; have hnl : ¬ i < a.length := (by simpa using hc2)
  refine AW.exit ?_; (try simp only [thenE, inBlk, Nat.reduceEqDiff, ↓reduceIte])
  clear hK K
  (refine hK _ ?_; clear hK K; (skip))
  (refine AW.seq_k ?_; intro K hK)
  refine AW.region ?_
  refine awP (op_assign rfl rfl) ?_
  refine AWL.nil ?_
  (refine hK _ ?_; clear hK K; (try simp only [nA, Nat.reduceBEq, Nat.reduceEqDiff, ↓reduceIte, Nat.reduceAdd, Nat.reduceSub]))
  skip
  refine AW.ret ?_; (try simp only [thenE, inBlk, Nat.reduceEqDiff, ↓reduceIte]); rw [le_yes hc1 hnl hi.2]; exact RQ.of0 rfl (.tmp (bl rfl) rfl rfl .nil)
set_option maxHeartbeats 8000000 in
theorem C91 {a b : List Op} (h1 : a.length ≤ 1000000) : Fn Tryz.prog 91 [] [.ro (a.map Op.av), .ro (b.map Op.av)] [.v (.bool (listEq opEq a b))] [] := by
  refine Spec.body Tryz.func91 rfl Tryz.ntmps91 (by simp) rfl ?_; intro S0 own0 v0 w0 gl
  (refine AW.seq_k ?_; intro K hK)
  refine AW.region ?_
  refine awP (op_assign rfl rfl) ?_
  refine AWL.nil ?_
  (refine hK _ ?_; clear hK K; (try simp only [nA, Nat.reduceBEq, Nat.reduceEqDiff, ↓reduceIte, Nat.reduceAdd, Nat.reduceSub]))
  (refine AW.seq_k ?_; intro K hK)
  (refine AW.seq_k ?_; intro K hK)
  refine AW.region ?_
  refine awP (op_move rfl rfl) ?_
  refine awP (op_len_ro (n := a.length) rfl rfl Tryz.underlying40 (.inr (.inl ⟨_, rfl, by simp⟩))) ?_
  refine awP (op_move rfl rfl) ?_
  refine awP (op_len_ro (n := b.length) rfl rfl Tryz.underlying40 (.inr (.inl ⟨_, rfl, by simp⟩))) ?_
  (refine awP (op_neq rfl rfl rfl) ?_)
  refine AWL.nil ?_
  (refine hK _ ?_; clear hK K; (simp only [nA, ↓reduceIte]))
  refine AW.cond rfl rfl rfl (fun hc => ?_) (fun hc => ?_)
  ·
   have hc1 := hc
   (refine AW.seq_k ?_; intro K hK)
   refine AW.region ?_
   refine awP (op_assign rfl rfl) ?_
   refine AWL.nil ?_
   (refine hK _ ?_; clear hK K; (try simp only [nA, Nat.reduceBEq, Nat.reduceEqDiff, ↓reduceIte, Nat.reduceAdd, Nat.reduceSub]))
   skip
   refine AW.ret ?_; (try simp only [thenE, inBlk, Nat.reduceEqDiff, ↓reduceIte]); rw [le_ne hc1]; exact RQ.of0 rfl (.tmp (bl rfl) rfl rfl .nil)
  have hc1 := hc; have hle : a.length = b.length := (by have e : (a.length : Int) = b.length := (by simpa using hc1); omega)
  refine AW.skip ?_
  (refine hK _ ?_; clear hK K; (skip))
  (refine AW.seq_k ?_; intro K hK)
  (refine AW.seq_k ?_; intro K hK)
  refine AW.region ?_
  refine awP (op_move rfl rfl) ?_
  refine awP (op_len_ro (n := a.length) rfl rfl Tryz.underlying40 (.inr (.inl ⟨_, rfl, by simp⟩))) ?_
  refine awP (op_move rfl rfl) ?_
  refine AWL.nil ?_
  (refine hK _ ?_; clear hK K; (simp only [nA, ↓reduceIte]))
  refine AW.block ?_
  refine AW.loopI (fun i => [(0, .ro (a.map Op.av)), (1, .ro (b.map Op.av)), (12, .v (.int .i64 a.length)), (13, .v (.int .i64 (i : Nat)))]) (fun i => ⟨[], 1⟩) (fun i => i ≤ a.length ∧ ∀ k, k < i → opEq (a.getD k default) (b.getD k default) = true) (fun i => a.length - i) 0 (by simp) ⟨rfl, rfl, rfl, rfl, trivial⟩ rfl ?_; intro i ρ hi; simp only [updL]
  (refine AW.seq_k ?_; intro K hK)
  refine AW.region ?_
  refine awP (op_lss rfl rfl rfl) ?_
  refine AWL.nil ?_
  (refine hK _ ?_; clear hK K; (try simp only [nA, Nat.reduceBEq, Nat.reduceEqDiff, ↓reduceIte, Nat.reduceAdd, Nat.reduceSub]))
  (refine AW.seq_k ?_; intro K hK)
  refine AW.cond rfl rfl rfl (fun hc => ?_) (fun hc => ?_)
  ·
   have hc2 := hc; have hlt : i < a.length := (by simpa using hc2)
   refine AW.skip ?_
   (refine hK _ ?_; clear hK K; (skip))
   (refine AW.seq_k ?_; intro K hK)
   refine AW.block ?_
   (refine AW.seq_k ?_; intro K hK)
   refine AW.region ?_
   refine awP (op_move rfl rfl) ?_
   refine awP (op_assign rfl rfl) ?_
   refine AWL.nil ?_
   (refine hK _ ?_; clear hK K; (simp only [nA, ↓reduceIte]))
   (refine AW.seq_k ?_; intro K hK)
   refine AW.quiet mix (by kernel_rfl) ?_
   refine aqP (op_move rfl rfl) ?_
   refine aqP (op_move rfl rfl) ?_
   refine aqP (op_ia_ro i rfl (.inl rfl) rfl Tryz.underlying40 rfl (get_mapD (by omega)) (by exact sz39) (bl rfl)) ?_
   (refine aqR (op_load_rop rfl rfl ag39 sz39 (bl rfl) (by decide) rfl) ?_)
   refine aqP (op_move rfl rfl) ?_
   refine aqP (op_move rfl rfl) ?_
   refine aqP (op_ia_ro i rfl (.inl rfl) rfl Tryz.underlying40 rfl (get_mapD (by omega)) (by exact sz39) (bl rfl)) ?_
   (refine aqR (op_load_rop rfl rfl ag39 sz39 (bl rfl) (by decide) rfl) ?_)
   refine aqP (op_neq39 (p := a.getD i default) (q := b.getD i default) rfl rfl rfl) ?_; (simp only [nA, ↓reduceIte])
   refine AQ.nil ?_
   (refine hK _ ?_; clear hK K; (skip))
   refine AW.cond rfl rfl rfl (fun hc => ?_) (fun hc => ?_)
   ·
    have hc3 := hc
    (refine AW.seq_k ?_; intro K hK)
    refine AW.region ?_
    refine awP (op_assign rfl rfl) ?_
    refine AWL.nil ?_
    (refine hK _ ?_; clear hK K; (try simp only [nA, Nat.reduceBEq, Nat.reduceEqDiff, ↓reduceIte, Nat.reduceAdd, Nat.reduceSub]))
    skip
    refine AW.ret ?_; (try simp only [thenE, inBlk, Nat.reduceEqDiff, ↓reduceIte]); rw [le_no hlt hc3]; exact RQ.of0 rfl (.tmp (bl rfl) rfl rfl .nil)
   have hc3 := hc
   refine AW.skip ?_
   (try simp only [thenE, inBlk, Nat.reduceEqDiff, ↓reduceIte])
   (refine hK _ ?_; clear hK K; (skip))
   refine AW.region ?_
   (refine awP (op_addi rfl rfl rfl (by omega)) ?_)
   refine awP (op_move rfl rfl) ?_
   skip
   refine AWL.nil ?_
   refine ⟨i + 1, ⟨by omega, all_b_step hi.2 (by simpa using hc3)⟩, by omega, ⟨rfl, rfl, rfl, rfl, trivial⟩, (by rfl), (by rfl)⟩
  have hc2 := hc; have hnl : ¬ i < a.length := (by simpa using hc2)
  refine AW.exit ?_; (try simp only [thenE, inBlk, Nat.reduceEqDiff, ↓reduceIte])
  clear hK K
  (refine hK _ ?_; clear hK K; (skip))
  (refine AW.seq_k ?_; intro K hK)
  refine AW.region ?_
  refine awP (op_assign rfl rfl) ?_
  refine AWL.nil ?_
  (refine hK _ ?_; clear hK K; (try simp only [nA, Nat.reduceBEq, Nat.reduceEqDiff, ↓reduceIte, Nat.reduceAdd, Nat.reduceSub]))
  skip
  refine AW.ret ?_; (try simp only [thenE, inBlk, Nat.reduceEqDiff, ↓reduceIte]); rw [le_yes hc1 hnl hi.2]; exact RQ.of0 rfl (.tmp (bl rfl) rfl rfl .nil)
set_option maxHeartbeats 8000000 in
theorem C35 {a b : List Op} (h1 : a.length ≤ 1000000) : Fn Tryz.prog 35 [] [.ro (a.map Op.av), .ro (b.map Op.av)] [.v (.bool (listEq opEq a b))] [] := by
  refine Spec.body Tryz.func35 rfl Tryz.ntmps35 (by simp) rfl ?_; intro S0 own0 v0 w0 gl
  (refine AW.seq_k ?_; intro K hK)
  refine AW.region ?_
  refine awP (op_assign rfl rfl) ?_
  refine AWL.nil ?_
  (refine hK _ ?_; clear hK K; (try simp only [nA, Nat.reduceBEq, Nat.reduceEqDiff, ↓reduceIte, Nat.reduceAdd, Nat.reduceSub]))
  (refine AW.seq_k ?_; intro K hK)
  (refine AW.seq_k ?_; intro K hK)
  refine AW.region ?_
  refine awP (op_move rfl rfl) ?_
  refine awP (op_len_ro (n := a.length) rfl rfl Tryz.underlying40 (.inr (.inl ⟨_, rfl, by simp⟩))) ?_
  refine awP (op_move rfl rfl) ?_
  refine awP (op_len_ro (n := b.length) rfl rfl Tryz.underlying40 (.inr (.inl ⟨_, rfl, by simp⟩))) ?_
  (refine awP (op_neq rfl rfl rfl) ?_)
  refine AWL.nil ?_
  (refine hK _ ?_; clear hK K; (simp only [nA, ↓reduceIte]))
  refine AW.cond rfl rfl rfl (fun hc => ?_) (fun hc => ?_)
  ·
   have hc1 := hc
   (refine AW.seq_k ?_; intro K hK)
   refine AW.region ?_
   refine awP (op_assign rfl rfl) ?_
   refine AWL.nil ?_
   (refine hK _ ?_; clear hK K; (try simp only [nA, Nat.reduceBEq, Nat.reduceEqDiff, ↓reduceIte, Nat.reduceAdd, Nat.reduceSub]))
   skip
   refine AW.ret ?_; (try simp only [thenE, inBlk, Nat.reduceEqDiff, ↓reduceIte]); rw [le_ne hc1]; exact RQ.of0 rfl (.tmp (bl rfl) rfl rfl .nil)
  have hc1 := hc; have hle : a.length = b.length := (by have e : (a.length : Int) = b.length := (by simpa using hc1); omega)
  refine AW.skip ?_
  (refine hK _ ?_; clear hK K; (skip))
  (refine AW.seq_k ?_; intro K hK)
  (refine AW.seq_k ?_; intro K hK)
  refine AW.region ?_
  refine awP (op_assign rfl rfl) ?_
  refine AWL.nil ?_
  (refine hK _ ?_; clear hK K; (try simp only [nA, Nat.reduceBEq, Nat.reduceEqDiff, ↓reduceIte, Nat.reduceAdd, Nat.reduceSub]))
  refine AW.block ?_
  refine AW.loopI (fun i => [(0, .ro (a.map Op.av)), (1, .ro (b.map Op.av)), (5, .v (.int .i64 (i : Nat)))]) (fun i => ⟨[], 1⟩) (fun i => i ≤ a.length ∧ ∀ k, k < i → opEq (a.getD k default) (b.getD k default) = true) (fun i => a.length - i) 0 (by simp) ⟨rfl, rfl, rfl, trivial⟩ rfl ?_; intro i ρ hi; simp only [updL]
  (refine AW.seq_k ?_; intro K hK)
  (refine AW.seq_k ?_; intro K hK)
  refine AW.region ?_
  refine awP (op_move rfl rfl) ?_
  refine awP (op_move rfl rfl) ?_
  refine awP (op_len_ro (n := a.length) rfl rfl Tryz.underlying40 (.inr (.inl ⟨_, rfl, by simp⟩))) ?_
  refine awP (op_lss rfl rfl rfl) ?_
  refine AWL.nil ?_
  (refine hK _ ?_; clear hK K; (simp only [nA, ↓reduceIte]))
  refine AW.cond rfl rfl rfl (fun hc => ?_) (fun hc => ?_)
  ·
   have hc2 := hc; have hlt : i < a.length := (by simpa using hc2)
   refine AW.skip ?_
   (refine hK _ ?_; clear hK K; (skip))
   (refine AW.seq_k ?_; intro K hK)
   refine AW.block ?_
   (refine AW.seq_k ?_; intro K hK)
   refine AW.quiet mix (by kernel_rfl) ?_
   refine aqP (op_move rfl rfl) ?_
   refine aqP (op_move rfl rfl) ?_
   refine aqP (op_ia_ro i rfl (.inl rfl) rfl Tryz.underlying40 rfl (get_mapD (by omega)) (by exact sz39) (bl rfl)) ?_
   (refine aqR (op_load_rop rfl rfl ag39 sz39 (bl rfl) (by decide) rfl) ?_)
   refine aqP (op_move rfl rfl) ?_
   refine aqP (op_move rfl rfl) ?_
   refine aqP (op_ia_ro i rfl (.inl rfl) rfl Tryz.underlying40 rfl (get_mapD (by omega)) (by exact sz39) (bl rfl)) ?_
   (refine aqR (op_load_rop rfl rfl ag39 sz39 (bl rfl) (by decide) rfl) ?_)
   refine aqP (op_neq39 (p := a.getD i default) (q := b.getD i default) rfl rfl rfl) ?_; (simp only [nA, ↓reduceIte])
   refine AQ.nil ?_
   (refine hK _ ?_; clear hK K; (skip))
   refine AW.cond rfl rfl rfl (fun hc => ?_) (fun hc => ?_)
   ·
    have hc3 := hc
    (refine AW.seq_k ?_; intro K hK)
    refine AW.region ?_
    refine awP (op_assign rfl rfl) ?_
    refine AWL.nil ?_
    (refine hK _ ?_; clear hK K; (try simp only [nA, Nat.reduceBEq, Nat.reduceEqDiff, ↓reduceIte, Nat.reduceAdd, Nat.reduceSub]))
    skip
    refine AW.ret ?_; (try simp only [thenE, inBlk, Nat.reduceEqDiff, ↓reduceIte]); rw [le_no hlt hc3]; exact RQ.of0 rfl (.tmp (bl rfl) rfl rfl .nil)
   have hc3 := hc
   refine AW.skip ?_
   (try simp only [thenE, inBlk, Nat.reduceEqDiff, ↓reduceIte])
   (refine hK _ ?_; clear hK K; (skip))
   refine AW.region ?_
   refine awP (op_move rfl rfl) ?_
   (refine awP (op_addi rfl rfl rfl (by omega)) ?_)
   refine awP (op_assign rfl rfl) ?_
   skip
   refine AWL.nil ?_
   refine ⟨i + 1, ⟨by omega, all_b_step hi.2 (by simpa using hc3)⟩, by omega, ⟨rfl, rfl, rfl, trivial⟩, (by rfl), (by rfl)⟩
  have hc2 := hc; have hnl : ¬ i < a.length := (by simpa using hc2)
  refine AW.exit ?_; (try simp only [thenE, inBlk, Nat.reduceEqDiff, ↓reduceIte])
  clear hK K
  (refine hK _ ?_; clear hK K; (skip))
  (refine AW.seq_k ?_; intro K hK)
  refine AW.region ?_
  refine awP (op_assign rfl rfl) ?_
  refine AWL.nil ?_
  (refine hK _ ?_; clear hK K; (try simp only [nA, Nat.reduceBEq, Nat.reduceEqDiff, ↓reduceIte, Nat.reduceAdd, Nat.reduceSub]))
  skip
  refine AW.ret ?_; (try simp only [thenE, inBlk, Nat.reduceEqDiff, ↓reduceIte]); rw [le_yes hc1 hnl hi.2]; exact RQ.of0 rfl (.tmp (bl rfl) rfl rfl .nil)
end Go.Proofs.YtfmnaigedgmhoaaGreatDoor
