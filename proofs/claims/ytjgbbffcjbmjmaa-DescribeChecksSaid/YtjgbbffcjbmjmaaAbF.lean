import Derived.Test.YtjgbbffcjbmjmaaAbE
namespace Go.Proofs.Ytjgbbffcjbmjmaa
open Go.RowKit
set_option linter.unusedSimpArgs false
set_option linter.unusedVariables false

/-! ### Sets: maps to bool, made here -/
theorem put_isMap {k : Lit} {D : DataW Unit} (d : DataW Unit) (h : Go.Maps.IsMap D) : Go.Maps.IsMap (D.put k d) := by
  obtain ⟨es, rfl⟩ := h
  exact ⟨_, rfl⟩
theorem setD_isMap (P : Program) (k : TypeId) : ∀ ks : List Value, Go.Maps.IsMap (setD P k ks)
  | [] => ⟨[], rfl⟩
  | x :: ks => put_isMap _ (setD_isMap P k ks)
theorem setD_at {P : Program} {k : TypeId} (K : Go.Maps.Keyed P k) {x : Value} {l : Lit} (hx : keyOf P k x = some l) : ∀ ks : List Value, (∀ y ∈ ks, ∃ kl, keyOf P k y = some kl) →
    (x ∈ ks → (setD P k ks).atKey l (.lit (.bool false)) = .lit (.bool true)) ∧ (x ∉ ks → (setD P k ks).atKey l (.lit (.bool false)) = .lit (.bool false))
  | [], _ => ⟨fun h => by simp at h, fun _ => rfl⟩
  | y :: ks, h => by
    obtain ⟨ly, hy⟩ := h y (by simp)
    have ih := setD_at K hx ks fun z hz => h z (by simp [hz])
    have e : (setD P k (y :: ks)) = (setD P k ks).put ly (.lit (.bool true)) := by
      show (setD P k ks).put ((keyOf P k y).getD (.bool false)) _ = _
      rw [hy]; rfl
    rw [e]
    by_cases hl : l = ly
    · subst hl
      have hxy : x = y := K.inj hx hy
      rw [Go.Maps.atKey_put_same (setD_isMap P k ks) (K.key hx)]
      exact ⟨fun _ => rfl, fun hn => absurd (by simp [hxy]) hn⟩
    · have hne : x ≠ y := fun e => hl (by rw [e] at hx; rw [hx] at hy; injection hy)
      rw [Go.Maps.atKey_put_other hl]
      exact ⟨fun hm => ih.1 ((List.mem_cons.1 hm).resolve_left hne), fun hm => ih.2 fun h' => hm (by simp [h'])⟩
section
variable {C : Cx} {o : Oper} {ev : Operand → AV} {T : Sl}
theorem op_makeMap {t k e : TypeId} (ho : o.op = .makeMap t none) (ht : C.P.underlying t = some (.map k e)) (he : C.P.underlying e = some .bool) (K : Go.Maps.Keyed C.P k) : OpJ C o ev T (.mp T.slots.length T.ep) (pushT T (.om t [])) := by
  intro a w S vals bss hm h Kk hK Q
  have hrep : Rep C.P S (w.alloc (.map #[] 0)) [w.heap.size] (.map (some w.heap.size)) (.om t []) := .om ht he K (by simp) (World.ownsMap_made w C.P k (plainElem C.P e)) (Nat.le_refl _)
  obtain ⟨hm', hf⟩ := hm.push ((Kept.refl _ _).alloc (.map #[] 0)) hrep (by simp) (by simp)
  unfold Oper.wp execOp
  simp only [ho, Option.map_none, run_makeMap, Sem.run_bind, Result.andThen_ok, Sem.run_pure, Oper.upon_skip]
  refine hK _ _ _ _ _ hm' hf ⟨by simp [pushT], rfl, fun b ks v h1 h2 => ?_⟩
  have h1 : (T.slots ++ [_])[T.slots.length]? = _ := h1
  rw [getElem?_snoc, hm.nv, if_neg (Nat.lt_irrefl _), if_pos rfl] at h2
  injection h2
theorem om_inv {P : Program} {S : Nat → Prop} {w : World} {bs : List Nat} {u : Value} {t : TypeId} {ks : List Value} (h : Rep P S w bs u (.om t ks)) : ∃ k e b n, u = .map (some b) ∧ bs = [b] ∧ P.underlying t = some (.map k e) ∧ P.underlying e = some .bool ∧ Go.Maps.Keyed P k ∧ (∀ x ∈ ks, ∃ kl, keyOf P k x = some kl) ∧ w.ownsMap (H := Unit) P k (plainElem P e) b n (setD P k ks) ∧ n ≤ ks.length := by
  cases h with
  | om ht he K hk h hn => exact ⟨_, _, _, _, rfl, rfl, ht, he, K, hk, h, hn⟩
theorem key_agg {P : Program} {S : Nat → Prop} {w : World} {T : Sl} {vals : List Value} {u : Value} {xs : List Value} (h : TmpOK P S w T vals u (.agg (xs.map .v))) : u = .agg xs.toArray := by
  obtain ⟨us, rfl, r⟩ := h.agg
  congr 1
  apply Array.toList_inj.1
  refine List.ext_getElem (by simpa using r.1) fun i h1 h2 => ?_
  have := r.2 i us.toList[i] (.v xs[i]) (List.getElem?_eq_getElem h1) (by simp at h2; simp [h2])
  simpa using (show Rep P S w [] _ (.v _) from this).v_inv.1
theorem op_lookup {t k e : TypeId} {y q : Operand} {r kq : Nat} {ks xs : List Value} {b : Bool} (ho : o.op = .lookup t y q false) (hy : ev y = .mp r kq) (hT : T.slots[r]? = some (kq, .om t ks)) (hq : ev q = .agg (xs.map .v)) (ht : C.P.underlying t = some (.map k e))
    (hz : ∀ w, (zeroValue e).run C.P w = .ok (.bool false) w) (hkey : ∃ kl, keyOf C.P k (.agg xs.toArray) = some kl) (hb : b = true ↔ Value.agg xs.toArray ∈ ks) : OpR C o ev T (.v (.bool b)) := by
  intro a w S vals bss hm h
  have h1 := h y (by simp [ho, Op.operands])
  have h2 := h q (by simp [ho, Op.operands])
  rw [hy] at h1
  rw [hq] at h2
  obtain ⟨v, bs, hv, hbs, hrep⟩ := hm.slot hT
  have hu := h1.2.2 t ks v hT hv
  obtain ⟨k', e', b', n, rfl, rfl, ht', he', K, hk, hown, hn⟩ := om_inv hrep
  rw [ht] at ht'
  injection ht' with ht'
  injection ht' with e1 e2
  subst e1; subst e2
  obtain ⟨kl, hkl⟩ := hkey
  have hat := setD_at K hkl ks hk
  refine ⟨.bool b, fun w' hkept => ?_, TmpOK.v_ rfl⟩
  have hown' : w'.ownsMap (H := Unit) C.P k (plainElem C.P e) b' n (setD C.P k ks) := by
    obtain ⟨es, clock, q1, q2⟩ := hown
    exact ⟨es, clock, (hkept.block _ (Array.getElem?_eq_some_iff.1 q1).1 trivial).trans q1, q2⟩
  obtain ⟨v, ps, hrun, hR⟩ := hown'.lookup K ht (hz w') (plainElem_bool he' false) hkl
  have hvb : v = .bool b := by
    by_cases hmem : Value.agg xs.toArray ∈ ks
    · rw [hat.1 hmem] at hR
      have hb1 := hb.2 hmem
      subst hb1
      unfold plainElem at hR
      rw [he'] at hR
      cases v <;> simp at hR
      rw [hR.1]
    · rw [hat.2 hmem] at hR
      have hb1 : b = false := by cases b with | false => rfl | true => exact absurd (hb.1 rfl) hmem
      subst hb1
      unfold plainElem at hR
      rw [he'] at hR
      cases v <;> simp at hR
      rw [hR.1]
  subst hvb
  simp [execOp, ho, hu, key_agg h2, hrun]
theorem op_mapUpdate {t k e : TypeId} {y q z : Operand} {r kq : Nat} {ks xs : List Value} (ho : o.op = .mapUpdate t y q z) (hy : ev y = .mp r kq) (hT : T.slots[r]? = some (kq, .om t ks)) (hq : ev q = .agg (xs.map .v)) (hz : ev z = .v (.bool true)) (ht : C.P.underlying t = some (.map k e))
    (hkey : ∃ kl, keyOf C.P k (.agg xs.toArray) = some kl) (hn : ks.length < maxLen) : OpJ C o ev T .any ⟨T.slots.set r (kq, .om t (.agg xs.toArray :: ks)), T.ep⟩ := by
  intro a w S vals bss hm h Kk hK Q
  have h1 := h y (by simp [ho, Op.operands])
  have h2 := h q (by simp [ho, Op.operands])
  have h3 := h z (by simp [ho, Op.operands])
  rw [hy] at h1
  rw [hq] at h2
  rw [hz] at h3
  obtain ⟨v, bs, hv, hbs, hrep⟩ := hm.slot hT
  have hu := h1.2.2 t ks v hT hv
  obtain ⟨k', e', b', n, rfl, rfl, ht', he', K, hk, hown, hn'⟩ := om_inv hrep
  rw [ht] at ht'
  injection ht' with ht'
  injection ht' with e1 e2
  subst e1; subst e2
  obtain ⟨kl, hkl⟩ := hkey
  obtain ⟨w', hrun, hown', hg⟩ := hown.update K ht (by omega) hkl (plainElem_bool he' true)
  have hkept : Kept (fun q => q ∉ [b']) w w' := (Kept.refl _ w).grown hg fun k hk => by injection hk with hk; subst hk; simp
  have hrep' : Rep C.P S w' [b'] (.map (some b')) (.om t (.agg xs.toArray :: ks)) := by
    refine .om ht he' K (fun x hx => ?_) (n := n + 1) ?_ (by simp; omega)
    · rcases List.mem_cons.1 hx with rfl | hx
      · exact ⟨kl, hkl⟩
      · exact hk x hx
    · show w'.ownsMap C.P k _ b' (n + 1) ((setD C.P k ks).put ((keyOf C.P k (.agg xs.toArray)).getD (.bool false)) _)
      rw [hkl]
      exact hown'
  obtain ⟨hm', hf⟩ := hm.set (k' := kq) (ep' := T.ep) hT hv hbs hkept hrep' (hm.nodup r _ hbs) (fun b h => .inl h) (.inl ⟨rfl, rfl, rfl, (fun _ _ h => by cases h), (fun b1 ks1 h => by
    injection h with h1 h2
    subst h1
    exact ⟨ks, rfl⟩)⟩)
  unfold Oper.wp execOp
  simp only [ho, hu, key_agg h2, h3.v, hrun, Sem.run_bind, Result.andThen_ok, Sem.run_pure, Oper.upon_skip]
  exact hK undef _ _ _ _ hm' hf trivial
end
end Go.Proofs.Ytjgbbffcjbmjmaa
