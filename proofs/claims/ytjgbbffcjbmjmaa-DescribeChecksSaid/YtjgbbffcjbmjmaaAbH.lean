import Derived.Test.YtjgbbffcjbmjmaaAbG
namespace Go.Proofs.Ytjgbbffcjbmjmaa
open Go.RowKit
set_option linter.unusedSimpArgs false
set_option linter.unusedVariables false

/-! ### Slices that cells own, under their names -/
section
variable {C : Cx} {σ : Sta} {c : Code} {Q : Exit → Sta → Prop}
theorem Gh.share {e : TypeId} {es es2 : List (List AV)} {r k : Nat} (hT : σ.T.slots[r]? = some (k, .own e es)) (hl : es2.length = es.length)
    (H : ∀ (S : Nat → Prop) (w : World) (bs : List Nat) (v : Value), Rep C.P S w bs v (.own e es) → bs.Nodup → ∃ (b bs2 : List Nat), bs2.Nodup ∧ (∀ x ∈ b, x ∈ bs ∧ x ∉ bs2) ∧ (∀ x ∈ bs2, x ∈ bs) ∧ Rep C.P (fun q => S q ∨ q ∈ b) w bs2 v (.own e es2)) :
    Gh C σ ⟨σ.env, ⟨σ.T.slots.set r (k, .own e es2), σ.T.ep⟩, σ.n⟩ := by
  intro a w ⟨hd, hn, S, vals, bss, hm, he⟩
  obtain ⟨v, bs, hv, hb, hrep⟩ := hm.slot hT
  obtain ⟨b, bs2, n2, hbb, hb2, hr3⟩ := H S w bs v hrep (hm.nodup r bs hb)
  have hrl : r < σ.T.slots.length := (List.getElem?_eq_some_iff.1 hT).1
  have hbt : ∀ (q : Nat) (b1 : List Nat), (bss.set r bs2)[q]? = some b1 → (b1 = bs2 ∧ q = r) ∨ (q ≠ r ∧ bss[q]? = some b1) := by
    intro q b1 h
    rw [getElem?_set_ _ _ _ _ (by rw [hm.nb]; exact hrl)] at h
    split at h
    · rename_i e1; injection h with h; exact .inl ⟨h.symm, e1.symm⟩
    · rename_i e1; exact .inr ⟨fun e => e1 e.symm, h⟩
  have hf : Follows C.P S w σ.T vals (fun q => S q ∨ q ∈ b) w ⟨σ.T.slots.set r (k, .own e es2), σ.T.ep⟩ vals := by
    intro u x hx
    have key2 : ∀ (q kq : Nat) (x : AV), (σ.T.slots.set r (k, .own e es2))[q]? = some (kq, x) → σ.T.slots[q]? = some (kq, x) ∨ (q = r ∧ kq = k ∧ x = .own e es2) := by
      intro q kq x q1
      rw [getElem?_set_ _ _ _ _ hrl] at q1
      split at q1
      · rename_i e1; injection q1 with q1; injection q1 with q0 q1; exact .inr ⟨e1.symm, q0.symm, q1.symm⟩
      · exact .inl q1
    cases x with
    | sl q kq off len => exact ⟨hx.1, hx.2.1, fun e2 es2 v2 sz2 q1 q2 q3 => by
        rcases key2 _ _ _ q1 with h | ⟨rfl, rfl, h⟩
        · exact hx.2.2 e2 es2 v2 sz2 h q2 q3
        · injection h with h1 h2
          subst h1; subst h2
          rw [hl]
          exact hx.2.2 e2 es v2 sz2 hT q2 q3⟩
    | ptr q kq i2 j2 => exact ⟨hx.1, hx.2.1, fun e2 es2 v2 sz2 q1 q2 q3 => by
        rcases key2 _ _ _ q1 with h | ⟨rfl, rfl, h⟩
        · exact hx.2.2 e2 es2 v2 sz2 h q2 q3
        · injection h with h1 h2
          subst h1; subst h2
          rw [hl]
          exact hx.2.2 e2 es v2 sz2 hT q2 q3⟩
    | mp q kq => exact ⟨hx.1, hx.2.1, fun b1 ks v1 q1 q2 => by
        rcases key2 _ _ _ q1 with h | ⟨rfl, rfl, h⟩
        · exact hx.2.2 b1 ks v1 h q2
        · cases h⟩
    | nm => exact hx
    | byt => exact hx
    | om => exact hx
    | _ => exact RefOK.kept (T := σ.T) (vals := vals) hx (Kept.refl (fun _ => True) w) (fun _ _ _ => trivial) (fun q h => .inl h)
  refine ⟨hd, hn, fun q => S q ∨ q ∈ b, vals, bss.set r bs2, ⟨hm.kept, fun q h => .inl (hm.s0 q h), fun q h => ?_, fun q h => ?_, by simp [hm.nv], by simp [hm.nb], ?_, ?_, ?_, ?_, ?_, ?_, ?_, hm.pos⟩, fun q hq => TmpOK.follows hf (he q hq)⟩
  · rcases h with h | h
    · exact hm.sub q h
    · rcases hm.mine r bs hb q (hbb q h).1 with h | h
      · exact .inr (.inl h)
      · exact .inr (.inr h)
  · rcases h with h | h
    · exact hm.lt q h
    · exact hm.blt hb q (hbb q h).1
  · intro q kq y u b1 q1 q2 q3
    rw [getElem?_set_ _ _ _ _ hrl] at q1
    rcases hbt q b1 q3 with ⟨rfl, rfl⟩ | ⟨hne, q4⟩
    · rw [if_pos rfl] at q1
      injection q1 with q1; injection q1 with _ q1
      subst q1
      rw [hv] at q2
      injection q2 with q2
      subst q2
      exact hr3
    · rw [if_neg (fun e => hne e.symm)] at q1
      exact (hm.rep q kq y u b1 q1 q2 q4).mono fun _ _ h => .inl h
  · intro q b1 q1
    rcases hbt q b1 q1 with ⟨rfl, rfl⟩ | ⟨hne, q4⟩
    · exact n2
    · exact hm.nodup q b1 q4
  · intro q q' b1 b2 hne q1 q2 x hx1 hx2
    rcases hbt q b1 q1 with ⟨rfl, rfl⟩ | ⟨hne1, q4⟩
    · rcases hbt q' b2 q2 with ⟨rfl, rfl⟩ | ⟨hne2, q5⟩
      · exact hne rfl
      · exact hm.disj q q' bs b2 hne hb q5 x (hb2 x hx1) hx2
    · rcases hbt q' b2 q2 with ⟨rfl, rfl⟩ | ⟨hne2, q5⟩
      · exact hm.disj q q' b1 bs hne q4 hb x hx1 (hb2 x hx2)
      · exact hm.disj q q' b1 b2 hne q4 q5 x hx1 hx2
  · intro q b1 q1 x hx1 hS
    rcases hbt q b1 q1 with ⟨rfl, rfl⟩ | ⟨hne1, q4⟩
    · rcases hS with hS | hS
      · exact hm.apart q bs hb x (hb2 x hx1) hS
      · exact (hbb x hS).2 hx1
    · rcases hS with hS | hS
      · exact hm.apart q b1 q4 x hx1 hS
      · exact hm.disj q r b1 bs hne1 q4 hb x hx1 (hbb x hS).1
  · intro q b1 q1 x hx1
    rcases hbt q b1 q1 with ⟨rfl, rfl⟩ | ⟨hne1, q4⟩
    · exact hm.mine q bs hb x (hb2 x hx1)
    · exact hm.mine q b1 q4 x hx1
  · intro q y hlt q1
    rw [getElem?_set_ _ _ _ _ hrl] at q1
    split at q1
    · rename_i e1
      injection q1 with q1; injection q1 with q1 _
      subst e1
      exact hm.root r _ hlt (by rw [hT, q1])
    · exact hm.root q y hlt q1
  · intro q kq y q1
    rw [getElem?_set_ _ _ _ _ hrl] at q1
    split at q1
    · injection q1 with q1; injection q1 with q1 _
      rw [← q1]; exact hm.ver r k _ hT
    · exact hm.ver q kq y q1
/-- The slices that the cells of a slot own are only read from now on. -/
theorem Gh.freezeR {e : TypeId} {es es2 : List (List AV)} {r k : Nat} (hT : σ.T.slots[r]? = some (k, .own e es)) (hx : ∀ r ∈ es, ∀ c ∈ r, flat2 c) (he : es.map (·.map fz1) = es2) : Gh C σ ⟨σ.env, ⟨σ.T.slots.set r (k, .own e es2), σ.T.ep⟩, σ.n⟩ := by
  subst he
  refine Gh.share hT (by simp) fun S w bs v h hnd => ?_
  obtain ⟨us, sz, bss, rfl, hi, hsz, hown, hul, hbl, hc⟩ := h.own_inv
  rw [List.nodup_append] at hnd
  obtain ⟨n1, n2, n3⟩ := hnd
  refine ⟨bss.flatten, v.ownBlock.toList, n1, fun x hx => ⟨List.mem_append_right _ hx, fun h => n3 x h x hx rfl⟩, fun x hx => List.mem_append_left _ hx, ?_⟩
  have hfl : (es.map (·.map fz1)).flatten = es.flatten.map fz1 := by rw [List.map_flatten]
  have := Rep.own (P := C.P) (S := fun q => S q ∨ q ∈ bss.flatten) (w := w) (v := v) (e := e) (es := es.map (·.map fz1)) (us := us) (sz := sz) (bss := List.replicate us.length []) hi (fun x hx => by
    obtain ⟨y, hy, rfl⟩ := List.mem_map.1 hx
    rw [List.length_map]; exact hsz y hy) (by rw [List.length_map]; exact hown) (by rw [hfl, List.length_map]; exact hul) (by simp) (fun i u x b h1 h2 h3 => by
    have hb : b = [] := by rw [List.getElem?_replicate] at h3; split at h3 <;> simp_all
    subst hb
    rw [hfl, List.getElem?_map] at h2
    cases hy : es.flatten[i]? with
    | none => rw [hy] at h2; cases h2
    | some y =>
      rw [hy] at h2
      injection h2 with h2
      subst h2
      have hlt : i < bss.length := by rw [hbl]; exact (List.getElem?_eq_some_iff.1 h1).1
      have hbi := List.getElem?_eq_getElem hlt
      have hr := hc i u y _ h1 hy hbi
      obtain ⟨r0, hr1, hr2⟩ := List.mem_flatten.1 (List.mem_of_getElem? hy)
      rcases hx r0 hr1 y hr2 with hf | ⟨e', es', rfl, hf⟩
      · have e0 := hr.flat hf
        rw [e0] at hr
        have e1 : fz1 y = y := by cases y <;> first | rfl | cases hf
        rw [e1]
        exact hr.mono fun _ _ h => .inl h
      · obtain ⟨us', A', c', sz', rfl, p1, p2, hsz', hi', hul', hcc', hcell'⟩ := rep_freeze hr hf
        refine Rep.ro (us := us') p1 p2 hsz' (fun hn => ?_) hul' fun i u x hu hx => (hcc' i u x hu hx).mono fun _ _ h => .inl h
        obtain ⟨g, r1, r2, r3⟩ := hcell' hn
        refine ⟨g, 0, r1, .inr (List.mem_flatten.2 ⟨_, List.mem_of_getElem? hbi, r2⟩), fun j u hu => ?_⟩
        rw [Nat.zero_add]; exact r3 j u hu)
  have e0 : (List.replicate us.length ([] : List Nat)).flatten = [] := by simp
  rw [e0, List.append_nil] at this
  exact this
def GhE (C : Cx) (σ : Sta) (P : Value → Sta) : Prop := ∀ a w, St C σ a w → ∃ u, u.oneCell' = true ∧ St C (P u) a w
theorem AW.ghE {P : Value → Sta} (hg : GhE C σ P) (h : ∀ u, u.oneCell' = true → AW C c Q (P u)) : AW C c Q σ := fun a w hs => by
  obtain ⟨u, hu, h'⟩ := hg a w hs
  exact h u hu a w h'
theorem AWL.ghE {ops : Array Oper} {l : List Oper} {P : Value → Sta} (hg : GhE C σ P) (h : ∀ u, u.oneCell' = true → AWL C ops Q l (P u)) : AWL C ops Q l σ := fun a w hs => by
  obtain ⟨u, hu, h'⟩ := hg a w hs
  exact h u hu a w h'
/-- A cell's slice gets a slot of its own; the cell bears its name. -/
theorem GhE.unnest {e e' : TypeId} {es es' : List (List AV)} {row : List AV} {r k : Nat} (i j : Nat) (hT : σ.T.slots[r]? = some (k, .own e es)) (hrow : es[i]? = some row) (hx : row[j]? = some (.own e' es')) :
    GhE C σ fun u => ⟨σ.env, ⟨σ.T.slots.set r (k, .own e (es.set i (row.set j (.v u)))) ++ [(σ.T.ep, .nm u e' es')], σ.T.ep + 1⟩, σ.n⟩ := by
  intro a w ⟨hd, hn, S, vals, bss, hm, he⟩
  obtain ⟨v, bs, hv, hb, hrep⟩ := hm.slot hT
  obtain ⟨u, b, bs2, sz, hi, hr1, hr2, n1, n2, hbb, hb2, hcell, g0, hg0⟩ := hrep.take_cell (hm.nodup r bs hb) hrow hx
  have hrl : r < σ.T.slots.length := (List.getElem?_eq_some_iff.1 hT).1
  have hjl : j < row.length := (List.getElem?_eq_some_iff.1 hx).1
  have hil : i < es.length := (List.getElem?_eq_some_iff.1 hrow).1
  have hr3 : Rep C.P S w bs2 v (.own e (es.set i (row.set j (.v u)))) := by
    have := hr2.put_flat (i := i) (j := j) (row := row.set j (.sln es'.length)) (x' := .v u) (by simp [hil]) (x0 := .sln es'.length) (by simp [hjl]) rfl (fun u1 g sz1 hz1 hg1 hc1 => by
      have e1 := sizeIs.inj hi hz1
      subst e1
      have := hcell g hg1
      rw [this] at hc1
      injection hc1 with hc1
      subst hc1
      exact .v hr1.one)
    rwa [List.set_set, List.set_set] at this
  obtain ⟨hm1, hf1⟩ := hm.setF (k' := k) (ep' := σ.T.ep) hT hv hb (Kept.refl _ w) hr3 n2 (fun x hx' => .inl (hb2 x hx')) (.inl ⟨rfl, rfl, rfl, (fun e1 es1 he1 => by
    injection he1 with h3 h4
    subst h3; subst h4
    exact ⟨es, rfl, by simp⟩), (fun b ks h => by cases h)⟩)
  obtain ⟨hm2, hf2⟩ := hm1.pushF (Kept.refl _ w) (x := .nm u e' es') (v := u) (.nm hr1) n1 (fun x hx' => by
    obtain ⟨q1, q2⟩ := hbb x hx'
    refine ⟨fun q b1 hq hxb => ?_, hm.apart r bs hb x q1, hm.mine r bs hb x q1⟩
    rw [getElem?_set_ _ _ _ _ (by rw [hm.nb]; exact hrl)] at hq
    split at hq
    · injection hq with hq; subst hq; exact q2 hxb
    · rename_i hne; exact hm.disj r q bs b1 hne hb hq x q1 hxb)
  exact ⟨u, hr1.one, hd, hn, S, _, _, hm2, fun t ht => TmpOK.follows hf2 (TmpOK.follows hf1 (he t ht))⟩
theorem nodup_put {bss : List (List Nat)} {p : Nat} {b : List Nat} (h : bss.flatten.Nodup) (hp : bss[p]? = some []) (hb : b.Nodup) (hd : ∀ x ∈ b, x ∉ bss.flatten) : (bss.set p b).flatten.Nodup ∧ ∀ x, x ∈ (bss.set p b).flatten → x ∈ bss.flatten ∨ x ∈ b := by
  have hlt := (List.getElem?_eq_some_iff.1 hp).1
  have he := (List.getElem?_eq_some_iff.1 hp).2
  have e0 : bss.flatten = (bss.take p).flatten ++ (bss.drop (p + 1)).flatten := by
    conv => lhs; rw [← List.take_append_drop p bss, List.drop_eq_getElem_cons hlt, he]
    simp
  have e1 : (bss.set p b).flatten = (bss.take p).flatten ++ (b ++ (bss.drop (p + 1)).flatten) := by
    rw [List.set_eq_take_append_cons_drop, if_pos hlt]; simp
  rw [e0, List.nodup_append] at h
  obtain ⟨h1, h2, h3⟩ := h
  rw [e0] at hd
  rw [e1, e0]
  refine ⟨List.nodup_append.2 ⟨h1, List.nodup_append.2 ⟨hb, h2, fun x hx y hy e => hd x hx (by rw [e]; simp [hy])⟩, fun x hx y hy e => ?_⟩, fun x hx => ?_⟩
  · rcases List.mem_append.1 hy with hy | hy
    · exact hd y hy (by rw [← e]; simp [hx])
    · exact h3 x hx y hy e
  · simp only [List.mem_append] at hx ⊢
    rcases hx with h | h | h
    · exact .inl (.inl h)
    · exact .inr h
    · exact .inl (.inr h)
/-- A named slice goes back into the cell that bears its name. -/
theorem Gh.nest {e e' : TypeId} {es es' : List (List AV)} {row : List AV} {r k q kq : Nat} {u : Value} (i j : Nat) (hT : σ.T.slots[r]? = some (k, .own e es)) (hrow : es[i]? = some row) (hx : row[j]? = some (.v u)) (hq : σ.T.slots[q]? = some (kq, .nm u e' es')) (hrq : r ≠ q)
    {es2 : List (List AV)} (he2 : es.set i (row.set j (.own e' es')) = es2) : Gh C σ ⟨σ.env, ⟨(σ.T.slots.set q (kq, .any)).set r (k, .own e es2), σ.T.ep⟩, σ.n⟩ := by
  subst he2
  intro a w ⟨hd, hn, S, vals, bss, hm, he⟩
  obtain ⟨v, bs, hv, hb, hrep⟩ := hm.slot hT
  obtain ⟨vq, bq, hvq, hbq, hrepq⟩ := hm.slot hq
  have hnm : vq = u ∧ Rep C.P S w bq u (.own e' es') := by
    cases hrepq with
    | nm h => exact ⟨rfl, h⟩
  obtain ⟨rfl, hr1⟩ := hnm
  have hql : q < σ.T.slots.length := (List.getElem?_eq_some_iff.1 hq).1
  have hrl : r < σ.T.slots.length := (List.getElem?_eq_some_iff.1 hT).1
  have hjl : j < row.length := (List.getElem?_eq_some_iff.1 hx).1
  obtain ⟨us, sz, bss1, hbs, hi, hsz, hown, hul, hbl, hc⟩ := hrep.own_inv
  have hf := flat_at hsz hrow hx
  have hlt : i * sz + j < us.length := by rw [hul]; exact (List.getElem?_eq_some_iff.1 hf).1
  have h1 := List.getElem?_eq_getElem hlt
  have h2 := List.getElem?_eq_getElem (l := bss1) (by rw [hbl]; exact hlt)
  have hcell := hc _ _ _ _ h1 hf h2
  have hu := hcell.v_inv.1
  have hb0 : bss1[i * sz + j]? = some [] := by rw [h2, hcell.v_inv.2.1]
  have hnd := hm.nodup r bs hb
  rw [hbs, List.nodup_append] at hnd
  obtain ⟨m1, m2, m3⟩ := hnd
  have hdis : ∀ x ∈ bq, x ∉ bs := fun x hxb => hm.disj q r bq bs (fun h => hrq h.symm) hbq hb x hxb
  obtain ⟨p1, p2⟩ := nodup_put m2 hb0 (hm.nodup q bq hbq) (fun x hxb h => hdis x hxb (by rw [hbs]; exact List.mem_append_right _ h))
  have hrl2 := hsz row (List.mem_of_getElem? hrow)
  have hr2 : Rep C.P S w (v.ownBlock.toList ++ (bss1.set (i * sz + j) bq).flatten) v (.own e (es.set i (row.set j (.own e' es')))) := by
    refine Rep.own (us := us) hi (fun x hx' => ?_) (by rw [List.length_set]; exact hown) (by rw [set_flat hsz hrow hjl, List.length_set]; exact hul) (by rw [List.length_set]; exact hbl) fun p u1 x b q1 q2 q3 => ?_
    · rcases List.mem_or_eq_of_mem_set hx' with h' | h'
      · exact hsz x h'
      · rw [h', List.length_set]; exact hrl2
    · rw [set_flat hsz hrow hjl, List.getElem?_set] at q2
      rw [List.getElem?_set] at q3
      by_cases hp : i * sz + j = p
      · subst hp
        rw [if_pos rfl, if_pos (by rw [← hul]; exact hlt)] at q2
        rw [if_pos rfl, if_pos (by rw [hbl]; exact hlt)] at q3
        injection q2 with q2; injection q3 with q3
        subst q2; subst q3
        rw [h1] at q1; injection q1 with q1; subst q1
        rw [hu]
        exact hr1
      · rw [if_neg hp] at q2 q3
        exact hc p u1 x b q1 q2 q3
  obtain ⟨hm1, hf1⟩ := hm.setF (k' := kq) (ep' := σ.T.ep) (x' := .any) (bs' := []) hq hvq hbq (Kept.refl _ w) (.any hr1.one) (by simp) (by simp) (.inl ⟨rfl, rfl, rfl, (fun _ _ h => by cases h), (fun _ _ h => by cases h)⟩)
  have hT1 : (σ.T.slots.set q (kq, AV.any))[r]? = some (k, .own e es) := by rw [getElem?_set_ _ _ _ _ hql, if_neg (fun h => hrq h.symm)]; exact hT
  have hv1 : (vals.set q vq)[r]? = some v := by rw [getElem?_set_ _ _ _ _ (by rw [hm.nv]; exact hql), if_neg (fun h => hrq h.symm)]; exact hv
  have hb1 : (bss.set q [])[r]? = some bs := by rw [getElem?_set_ _ _ _ _ (by rw [hm.nb]; exact hql), if_neg (fun h => hrq h.symm)]; exact hb
  obtain ⟨hm2, hf2⟩ := hm1.setF (k' := k) (ep' := σ.T.ep) hT1 hv1 hb1 (Kept.refl _ w) hr2 (List.nodup_append.2 ⟨m1, p1, fun x hx1 y hy1 e0 => by
    rcases p2 y hy1 with h | h
    · exact m3 x hx1 y h e0
    · exact hdis y h (by rw [hbs, ← e0]; exact List.mem_append_left _ hx1)⟩) (fun x hx1 => by
    have : x ∈ bs ∨ x ∈ bq := by
      rcases List.mem_append.1 hx1 with h | h
      · exact .inl (by rw [hbs]; exact List.mem_append_left _ h)
      · rcases p2 x h with h | h
        · exact .inl (by rw [hbs]; exact List.mem_append_right _ h)
        · exact .inr h
    rcases this with h | h
    · exact .inl h
    · refine .inr ⟨fun p b1 hp hpb hbb => ?_, hm.apart q bq hbq x h, hm.mine q bq hbq x h⟩
      rw [getElem?_set_ _ _ _ _ (by rw [hm.nb]; exact hql)] at hpb
      split at hpb
      · injection hpb with hpb; subst hpb; simp at hbb
      · rename_i hne; exact hm.disj q p bq b1 hne hbq hpb x h hbb) (.inl ⟨rfl, rfl, rfl, (fun e1 es1 he1 => by
    injection he1 with h3 h4
    subst h3; subst h4
    exact ⟨es, rfl, by simp⟩), (fun b ks h => by cases h)⟩)
  exact ⟨hd, hn, S, _, _, hm2, fun t ht => TmpOK.follows hf2 (TmpOK.follows hf1 (he t ht))⟩
/-- An operation on a named slice. -/
theorem OpJ.nm {o : Oper} {env : Nat → AV} {T T' : Sl} {t r k : Nat} {u : Value} {e : TypeId} {es : List (List AV)} {x : AV} (ht : env t = .v u) (hT : T.slots[r]? = some (k, .nm u e es))
    (h : OpJ C o (evA (upd env t (.sl r T.ep 0 es.length))) ⟨T.slots.set r (T.ep, .own e es), T.ep + 1⟩ x T') : OpJ C o (evA env) T x T' := by
  intro a w S vals bss hm ho K hK Q
  obtain ⟨v, bs, hv, hb, hrep⟩ := hm.slot hT
  have hnm : v = u ∧ Rep C.P S w bs u (.own e es) := by
    cases hrep with
    | nm h => exact ⟨rfl, h⟩
  obtain ⟨rfl, hr1⟩ := hnm
  have hrl : r < T.slots.length := (List.getElem?_eq_some_iff.1 hT).1
  obtain ⟨hm1, hf1⟩ := hm.set (k' := T.ep) (ep' := T.ep + 1) hT hv hb (Kept.refl _ w) hr1 (hm.nodup r bs hb) (fun b h => .inl h) (.inr ⟨rfl, rfl⟩)
  refine h a w S _ _ hm1 (fun y hy => ?_) K (fun v2 w' S' vals' bss' q1 q2 q3 => hK v2 w' S' vals' bss' q1 (fun u x hx => q2 u x (hf1 u x hx)) q3) Q
  have h0 := TmpOK.follows hf1 (ho y hy)
  cases y with
  | tmp t' =>
    by_cases he : t' = t
    · subst he
      have e1 : evA (upd env t' (.sl r T.ep 0 es.length)) (.tmp t') = .sl r T.ep 0 es.length := by show upd env t' _ t' = _; unfold upd; rw [if_pos rfl]
      rw [e1]
      have e2 : a.eval (.tmp t') = v := by
        have := ho _ hy
        rw [show evA env (.tmp t') = .v v from ht] at this
        exact this.v
      rw [e2]
      refine ⟨Nat.lt_succ_self _, hr1.one, fun e2 es2 v2 sz2 q1 q2 q3 => ?_⟩
      rw [getElem?_set_ _ _ _ _ hrl, if_pos rfl] at q1
      rw [getElem?_set_ _ _ _ _ (by rw [hm.nv]; exact hrl), if_pos rfl] at q2
      injection q1 with q1; injection q1 with _ q1; injection q1 with q1 q4
      injection q2 with q2
      subst q1; subst q2; subst q4
      obtain ⟨us1, sz1, bss1, -, hi1, hsz1, hown1, -⟩ := hr1.own_inv
      refine ⟨by omega, ?_⟩
      rcases hown1.2 with ⟨hnil, h0'⟩ | ⟨g, cap', cur, hcap, -, -, p1, p2, -⟩
      · exact ⟨none, 0, 0, hnil, by omega, Nat.le_refl _, by unfold maxLen; omega, .inl ⟨rfl, by rw [hnil, h0']⟩⟩
      · exact ⟨_, _, _, hcap, by omega, p1, p2, .inl ⟨rfl, hcap⟩⟩
    · have e1 : evA (upd env t (.sl r T.ep 0 es.length)) (.tmp t') = evA env (.tmp t') := by show upd env t _ t' = env t'; unfold upd; rw [if_neg he]
      rw [e1]; exact h0
  | _ => exact h0
end
end Go.Proofs.Ytjgbbffcjbmjmaa
