import Derived.Test.YtmdohphcolffmaaGreatAmb
import Derived.Shelf.GgSortMore.Stable
import Derived.Test.YtmdohphcolffmaaGreatProg
import Derived.KernelRfl
import Derived.Laws.StructEq
namespace Go.Proofs.YtmdohphcolffmaaGreat
set_option maxHeartbeats 8000000
open Go.RowKit
set_option linter.unusedSimpArgs false
set_option linter.unusedVariables false
theorem Rep.own_put {P : Program} {S : Nat → Prop} {w : World} {bs : List Nat} {v : Value} {e : TypeId} {es es' : List (List AV)} {sz : Nat} (h : Rep P S w bs v (.own e es)) (hnd : bs.Nodup) (hap : ∀ b ∈ bs, ¬ S b) (hi0 : sizeIs P e sz)
   {vs : List Value} {xs : List AV} (hr : RL (Rep P S w []) vs xs) (p : Nat) (hp : p + xs.length ≤ es.flatten.length) (hlen : es'.length = es.length) (hsz' : ∀ x ∈ es', x.length = sz) (hfe : es'.flatten = yJ es.flatten p xs) (hpos : 0 < es.length) :
   ∃ g cap cur bs', v = .slice (some ⟨g, 0, none⟩) es.length cap ∧ w.heap[g]? = some (.cells cur e (0, 0)) ∧ p + vs.length ≤ cur.size ∧ g ∈ bs ∧
     Rep P S (w.setRow g (cur.toList.take p ++ vs ++ cur.toList.drop (p + vs.length)).toArray) bs' v (.own e es') ∧ bs'.Nodup ∧ (∀ b ∈ bs', b ∈ bs) := by
 obtain ⟨us, sz1, bss, rfl, hi, hsz, hown, hul, hbl, hc⟩ := h.own_inv
 obtain rfl := hi.inj hi0
 have hfl := flat_len hsz
 have hvx := hr.1
 rcases hown.2 with ⟨rfl, h0⟩ | ⟨g, cap, cur, rfl, -, hg, hnc, hcm, hcs, htake⟩
 · omega
 have hcl : es.length * sz1 ≤ cur.size := by rw [hcs]; exact Nat.mul_le_mul_right _ hnc
 have hl2 : p + vs.length ≤ us.length := by omega
 have hown' : (Value.slice (some ⟨g, 0, none⟩) es.length cap).ownBlock.toList = [g] := rfl
 rw [hown'] at hnd hap ⊢
 simp only [List.singleton_append, List.nodup_cons] at hnd
 have hb1 : (List.replicate vs.length ([] : List Nat)).length = vs.length := by simp
 refine ⟨g, cap, cur, [g] ++ (yJ bss p (List.replicate vs.length [])).flatten, rfl, hg, by omega, by simp, ?_, ?_, ?_⟩
 · have hcur : (yJ cur.toList p vs).take (es.length * sz1) = yJ us p vs := by
     apply List.ext_getElem?
     intro q
     rw [splice_get us _ _ hl2, List.getElem?_take, splice_get cur.toList _ _ (by simp; omega)]
     by_cases hq : q < es.length * sz1
     · rw [if_pos hq]
       have : us[q]? = cur.toList[q]? := by rw [← htake, List.getElem?_take, if_pos hq]
       rw [this]
     rw [if_neg hq, if_neg (by omega), if_neg (by omega), List.getElem?_eq_none (by omega)]
   have hg' := setRow_heap w g cur (yJ cur.toList p vs).toArray e (0, 0) hg
   have ho' : (w.setRow g (yJ cur.toList p vs).toArray).ownsRow 0 e sz1 (.slice (some ⟨g, 0, none⟩) es.length cap) es'.length (yJ us p vs) := by
     rw [hlen]
     exact ⟨by rw [splice_len _ _ _ hl2, hul, hfl], .inr ⟨g, cap, _, rfl, Nat.zero_le _, hg', hnc, hcm, by rw [← hcs, ← Array.length_toList]; show (yJ _ _ _).length = _; rw [splice_len _ _ _ (by simp; omega)]; simp, by simpa using hcur⟩⟩
   have hk : Kept (fun q => q ≠ g) w (w.setRow g (yJ cur.toList p vs).toArray) := ⟨rfl, rfl, rfl, by simp, fun k _ hk => setRow_other w g k _ hk⟩
   have hfin : Rep P S (w.setRow g (yJ cur.toList p vs).toArray) ([g] ++ (yJ bss p (List.replicate vs.length [])).flatten) (.slice (some ⟨g, 0, none⟩) es'.length cap) (.own e es') := by
     rw [← hlen] at ho'
     refine Rep.own (us := yJ us p vs) hi hsz' ho' ?_ ?_ ?_
     · rw [hfe, splice_len _ _ _ hl2, splice_len _ _ _ hp, hul]
     · rw [splice_len _ _ _ hl2, splice_len _ _ _ (by omega), hbl]
     intro q u x b h1 h2 h3
     rw [hfe, splice_get _ _ _ hp] at h2
     rw [splice_get _ _ _ hl2] at h1
     rw [splice_get _ _ _ (by omega), hb1] at h3
     rw [← hvx] at h2
     have hgS : ∀ k, k < w.heap.size → S k → k ≠ g := fun k _ hk he => hap g (by simp) (he ▸ hk)
     have old : ∀ (u : Value) (x : AV) (b : List Nat), us[q]? = some u → es.flatten[q]? = some x → bss[q]? = some b → Rep P S (w.setRow g (yJ cur.toList p vs).toArray) b u x := fun u x b h1 h2 h3 =>
       (hc q u x b h1 h2 h3).kept hk hgS fun b' hb' he => hnd.1 (he ▸ List.mem_flatten.2 ⟨b, List.mem_of_getElem? h3, hb'⟩)
     split at h1
     · rename_i h5; rw [if_pos h5] at h2 h3; exact old u x b h1 h2 h3
     rename_i h5
     rw [if_neg h5] at h2 h3
     split at h1
     · rename_i h6
       rw [if_pos h6] at h2 h3
       have : b = [] := by rw [List.getElem?_replicate] at h3; split at h3 <;> simp_all
       subst this
       exact (hr.2 _ u x h1 h2).kept hk hgS (by simp)
     rename_i h6; rw [if_neg h6] at h2 h3; exact old u x b h1 h2 h3
   rw [hlen] at hfin
   exact hfin
 · have hsp : (yJ bss p (List.replicate vs.length [])).flatten = (bss.take p).flatten ++ (bss.drop (p + vs.length)).flatten := by unfold yJ; simp
   have hsplit : bss.flatten = (bss.take p).flatten ++ (((bss.drop p).take vs.length).flatten ++ (bss.drop (p + vs.length)).flatten) := by
     rw [← List.flatten_append, ← List.flatten_append]
     congr 1
     have e1 : bss.drop (p + vs.length) = (bss.drop p).drop vs.length := by rw [List.drop_drop]
     rw [e1, List.take_append_drop, List.take_append_drop]
   have hn0 := hnd.2
   rw [hsplit, List.nodup_append, List.nodup_append] at hn0
   obtain ⟨n1, ⟨-, n2, -⟩, n3'⟩ := hn0
   have m1 : ∀ b ∈ (bss.take p).flatten, b ∈ bss.flatten := fun b hb => by rw [hsplit]; exact List.mem_append_left _ hb
   have m2 : ∀ b ∈ (bss.drop (p + vs.length)).flatten, b ∈ bss.flatten := fun b hb => by rw [hsplit]; exact List.mem_append_right _ (List.mem_append_right _ hb)
   rw [List.singleton_append, List.nodup_cons, hsp]
   refine ⟨fun h => ?_, ?_⟩
   · rcases List.mem_append.1 h with h | h
     · exact hnd.1 (m1 g h)
     exact hnd.1 (m2 g h)
   rw [List.nodup_append]
   exact ⟨n1, n2, fun a ha b hb he => n3' a ha b (List.mem_append_right _ hb) he⟩
 intro b hb
 rcases List.mem_append.1 hb with h | h
 · exact List.mem_append_left _ h
 have hsp : (yJ bss p (List.replicate vs.length [])).flatten = (bss.take p).flatten ++ (bss.drop (p + vs.length)).flatten := by unfold yJ; simp
 rw [hsp] at h
 have sub : ∀ l : List (List Nat), (∀ x ∈ l, x ∈ bss) → b ∈ l.flatten → b ∈ bss.flatten := fun l hl hb => by
   obtain ⟨y, h1, h2⟩ := List.mem_flatten.1 hb
   exact List.mem_flatten.2 ⟨y, hl y h1, h2⟩
 rcases List.mem_append.1 h with h | h
 · exact List.mem_append_right _ (sub _ (fun x hx => List.mem_of_mem_take hx) h)
 exact List.mem_append_right _ (sub _ (fun x hx => List.mem_of_mem_drop hx) h)
section
variable {C : Cx} {o : Oper} {ev : Operand → AV} {T : Sl}
/-- A slot whose cells from place p on are written. -/
theorem put_core {S : Nat → Prop} {vals : List Value} {bss : List (List Nat)} {w : World} (hm : Mem C T S vals bss w) {r k : Nat} {e : TypeId} {es es' : List (List AV)} {sz : Nat} (hT : T.slots[r]? = some (k, .own e es)) (hi : sizeIs C.P e sz)
   {vs : List Value} {xs : List AV} (hr : RL (Rep C.P S w []) vs xs) (p : Nat) (hp : p + xs.length ≤ es.flatten.length) (hlen : es'.length = es.length) (hsz' : ∀ x ∈ es', x.length = sz) (hfe : es'.flatten = yJ es.flatten p xs) (hpos : 0 < es.length) :
   ∃ g cap cur w' bss', vals[r]? = some (.slice (some ⟨g, 0, none⟩) es.length cap) ∧ w.heap[g]? = some (.cells cur e (0, 0)) ∧ p + vs.length ≤ cur.size ∧ w' = w.setRow g (cur.toList.take p ++ vs ++ cur.toList.drop (p + vs.length)).toArray ∧
     Mem C ⟨T.slots.set r (k, .own e es'), T.ep⟩ S vals bss' w' ∧ Follows C.P S w T vals S w' ⟨T.slots.set r (k, .own e es'), T.ep⟩ vals := by
 obtain ⟨v, bs, hv, hb, hrep⟩ := hm.slot hT
 obtain ⟨g, cap, cur, bs', rfl, hg, hfit, hgb, hrep', hnd', hsub⟩ := hrep.own_put (hm.nodup r bs hb) (hm.apart r bs hb) hi hr p hp hlen hsz' hfe hpos
 have hk : Kept (fun q => q ∉ bs) w (w.setRow g (cur.toList.take p ++ vs ++ cur.toList.drop (p + vs.length)).toArray) := ⟨rfl, rfl, rfl, by simp, fun k _ hk' => setRow_other w g k _ (fun e => hk' (e ▸ hgb))⟩
 obtain ⟨hm', hf⟩ := hm.set (k' := k) (ep' := T.ep) hT hv hb hk hrep' hnd' (fun b hb' => .inl (hsub b hb')) (.inl ⟨rfl, rfl, rfl, fun e' es'' h => by
   injection h with h3 h4
   subst h3; subst h4
   exact ⟨es, rfl, hlen.symm⟩, fun b ks h => by cases h⟩)
 have hvs : vals.set r (.slice (some ⟨g, 0, none⟩) es.length cap) = vals := by
   obtain ⟨hlt, hge⟩ := List.getElem?_eq_some_iff.1 hv
   rw [← hge]; exact List.set_getElem_self hlt
 rw [hvs] at hm' hf
 exact ⟨g, cap, cur, _, _, hv, hg, hfit, rfl, hm', hf⟩
theorem splice_take_drop {es rows : List (List AV)} {sz : Nat} (h1 : ∀ x ∈ es, x.length = sz) (h2 : ∀ x ∈ rows, x.length = sz) (i : Nat) (hi : i + rows.length ≤ es.length) : (yJ es i rows).flatten = yJ es.flatten (i * sz) rows.flatten := by
 have e1 : (es.take i).flatten = es.flatten.take (i * sz) := by have := flat_cut h1 0 i; simpa using this
 have e2 : (es.drop (i + rows.length)).flatten = es.flatten.drop (i * sz + rows.flatten.length) := by
   have := flat_cut h1 (i + rows.length) es.length
   rw [List.take_of_length_le (by simp), List.take_of_length_le (by simp [flat_len h1])] at this
   rw [this, flat_len h2, Nat.add_mul]
 unfold yJ
 rw [List.flatten_append, List.flatten_append, e1, e2]
theorem mem_splice {α : Type} {l xs : List α} {i : Nat} {x : α} (h : x ∈ yJ l i xs) : x ∈ l ∨ x ∈ xs := by
 unfold yJ at h
 rcases List.mem_append.1 h with h | h
 · rcases List.mem_append.1 h with h | h
   · exact .inl (List.mem_of_mem_take h)
   exact .inr h
 exact .inl (List.mem_of_mem_drop h)
end
section
variable {P : Program} {fn : Func} {σ : Sta} {e : Exit}
end
section
variable {C : Cx} {σ : Sta} {Q : Exit → Sta → Prop}
/-- A box is only read from now on. -/
theorem Gh.freezeP {e : TypeId} {row : List AV} {r k : Nat} (t : Nat) (ht : t < σ.n) (hv : σ.env t = .ptr r k 0 0) (hT : σ.T.slots[r]? = some (k, .own e [row])) (hx : ∀ c ∈ row, flatA c = true) :
   Gh C σ ⟨upd σ.env t (.rop row), ⟨σ.T.slots.set r (k, .any), σ.T.ep⟩, σ.n⟩ := by
 generalize hes : [row] = es at hT
 replace hx : ∀ r ∈ es, ∀ c ∈ r, flatA c = true := fun r hr => by rw [← hes] at hr; rw [List.mem_singleton.1 hr]; exact hx
 intro a w ⟨hd, hn, S, vals, bss, hm, he⟩
 obtain ⟨v, bs, hv2, hb, hrep⟩ := hm.slot hT
 obtain ⟨us, A, c, sz, hve, p1, p2, hsz, hi, hul, hcc, hcell⟩ := rep_freeze hrep hx
 have hrl : r < σ.T.slots.length := (List.getElem?_eq_some_iff.1 hT).1
 have hSS : ∀ q, S q → S q ∨ q ∈ bs := fun q h => .inl h
 have hf : Follows C.P S w σ.T vals (fun q => S q ∨ q ∈ bs) w ⟨σ.T.slots.set r (k, .any), σ.T.ep⟩ vals := by
   intro u x hx
   have key2 : ∀ (q kq : Nat) (x : AV), (σ.T.slots.set r (k, .any))[q]? = some (kq, x) → x ≠ .any → σ.T.slots[q]? = some (kq, x) := by
     intro q kq x q1 hne
     rw [getElem?_set_ _ _ _ _ hrl] at q1
     split at q1
     · injection q1 with q1; injection q1 with _ q1; exact absurd q1.symm hne
     exact q1
   cases x with
   | sl r k off len => exact ⟨hx.1, hx.2.1, fun e es v sz q1 q2 q3 => hx.2.2 e es v sz (key2 _ _ _ q1 (by simp)) q2 q3⟩
   | ptr r k i j => exact ⟨hx.1, hx.2.1, fun e es v sz q1 q2 q3 => hx.2.2 e es v sz (key2 _ _ _ q1 (by simp)) q2 q3⟩
   | mp r k => exact ⟨hx.1, hx.2.1, fun b ks v q1 q2 => hx.2.2 b ks v (key2 _ _ _ q1 (by simp)) q2⟩
   | _ => exact RefOK.kept (T := σ.T) (vals := vals) hx (Kept.refl (fun _ => True) w) (fun _ _ _ => trivial) hSS
 have hbt : ∀ (q : Nat) (b1 : List Nat), (bss.set r [])[q]? = some b1 → (b1 = [] ∧ q = r) ∨ (q ≠ r ∧ bss[q]? = some b1) := by
   intro q b1 h
   rw [getElem?_set_ _ _ _ _ (by rw [hm.nb]; exact hrl)] at h
   split at h
   · rename_i e1; injection h with h; exact .inl ⟨h.symm, e1.symm⟩
   rename_i e1; exact .inr ⟨fun e => e1 e.symm, h⟩
 refine ⟨hd, hn, fun q => S q ∨ q ∈ bs, vals, bss.set r [], ⟨hm.kept, fun q h => .inl (hm.s0 q h), fun q h => ?_, fun q h => ?_, by simp [hm.nv], by simp [hm.nb], ?_, ?_, ?_, ?_, ?_, ?_, ?_, hm.pos⟩, fun q hq => ?_⟩
 · rcases h with h | h
   · exact hm.sub q h
   rcases hm.mine r bs hb q h with h | h
   · exact .inr (.inl h)
   exact .inr (.inr h)
 · rcases h with h | h
   · exact hm.lt q h
   exact hm.blt hb q h
 · intro q kq y u b1 q1 q2 q3
   rw [getElem?_set_ _ _ _ _ hrl] at q1
   rcases hbt q b1 q3 with ⟨rfl, rfl⟩ | ⟨hne, q4⟩
   · rw [if_pos rfl] at q1
     injection q1 with q1; injection q1 with _ q1
     subst q1
     rw [hv2] at q2
     injection q2 with q2
     subst q2
     exact .any hrep.one
   rw [if_neg (fun e => hne e.symm)] at q1
   exact (hm.rep q kq y u b1 q1 q2 q4).mono fun _ _ h => .inl h
 · intro q b1 q1
   rcases hbt q b1 q1 with ⟨rfl, rfl⟩ | ⟨hne, q4⟩
   · simp
   exact hm.nodup q b1 q4
 · intro q q' b1 b2 hne q1 q2 b hb1 hb2
   rcases hbt q b1 q1 with ⟨rfl, rfl⟩ | ⟨hne1, q4⟩
   · simp at hb1
   rcases hbt q' b2 q2 with ⟨rfl, rfl⟩ | ⟨hne2, q5⟩
   · simp at hb2
   exact hm.disj q q' b1 b2 hne q4 q5 b hb1 hb2
 · intro q b1 q1 b hb1 hS
   rcases hbt q b1 q1 with ⟨rfl, rfl⟩ | ⟨hne1, q4⟩
   · simp at hb1
   rcases hS with hS | hS
   · exact hm.apart q b1 q4 b hb1 hS
   exact hm.disj q r b1 bs hne1 q4 hb b hb1 hS
 · intro q b1 q1 b hb1
   rcases hbt q b1 q1 with ⟨rfl, rfl⟩ | ⟨hne1, q4⟩
   · simp at hb1
   exact hm.mine q b1 q4 b hb1
 · intro q y hlt q1
   rw [getElem?_set_ _ _ _ _ hrl] at q1
   split at q1
   · rename_i e1
     injection q1 with q1; injection q1 with q1 _
     subst e1
     exact hm.root r _ hlt (by rw [hT, q1])
   exact hm.root q y hlt q1
 · intro q kq y q1
   rw [getElem?_set_ _ _ _ _ hrl] at q1
   split at q1
   · injection q1 with q1; injection q1 with q1 _
     rw [← q1]; exact hm.ver r k _ hT
   exact hm.ver q kq y q1
 show TmpOK _ _ _ _ _ _ (upd σ.env t _ q)
 unfold upd
 by_cases h : q = t
 · subst h
   rw [if_pos rfl]
   have h1 := he q hq
   rw [hv] at h1
   obtain ⟨hol, g0, nn, cap, hve2, hpe⟩ := h1.2.2 e es v sz hT hv2 hi
   rw [hve] at hve2
   injection hve2 with s1 s2 s3
   subst s1
   have hpe : a.tmps.getD q undef = .pointer (some ⟨g0, 0 * sz + 0, none⟩) := hpe
   rw [hpe]
   subst hes
   have hfl : ([row] : List (List AV)).flatten = row := by simp
   rw [hfl] at hul hcc
   refine (show Rep C.P _ w [] _ (.rop row) from Rep.rop (us := us) (fun hn => ?_) hul fun i u x hu hx => (hcc i u x hu hx).mono fun _ _ h => .inl h)
   obtain ⟨g, r1, r2, r3⟩ := hcell hn
   injection r1 with r1
   injection r1 with r1
   subst r1
   exact ⟨g0, 0 * sz + 0, rfl, .inr r2, fun j u hu => by rw [Nat.zero_mul, Nat.zero_add]; exact r3 j u hu⟩
 rw [if_neg h]
 exact TmpOK.follows hf (he q hq)
/-- What comes behind x is walked once, however x ends; i says in which state. -/
theorem AW.join {ι : Type} {x y : Code} (l : ι → List (Nat × AV)) (T : ι → Sl) (H : ι → Prop) (h1 : AW C x (zI (fun σ' => ∃ i, H i ∧ AllEq σ'.env (l i) ∧ σ'.T = T i ∧ σ'.n = σ.n) Q) σ) (h2 : ∀ i ρ, H i → AW C y Q ⟨updL ρ (l i), T i, σ.n⟩) : AW C (.seq x y) Q σ := by
 refine AW.seq (h1.mono fun e σ' h => ?_)
 cases e with
 | normal =>
   obtain ⟨i, g1, g2, g3, g4⟩ := h
   have := h2 i σ'.env g1
   rw [updL_self g2, ← g3, ← g4] at this
   exact this
 | _ => exact h
theorem Gh.trans {σ' σ'' : Sta} (h : Gh C σ σ') (h' : Gh C σ' σ'') : Gh C σ σ'' := fun a w hs => h' a w (h a w hs)
theorem Gh.refl : Gh C σ σ := fun _ _ h => h
end
section
variable {C : Cx} {o : Oper} {ev : Operand → AV} {T : Sl}
def isV : AV → Bool
 | .v x => x.oneCell'
 | _ => false
def vOf : AV → Value
 | .v x => x
 | _ => undef
end
section
variable {C : Cx} {ops : Array Oper} {Q : Exit → Sta → Prop} {Ok : Sl → Prop} {k : Nat}
def bindB (o : Oper) (i : Nat) : Bool := o.after.any fun e => Region.binds .any e && e.on == i
def bindAt (ops : Array Oper) (q i : Nat) : Bool := match ops[q]? with | some o => bindB o i | none => false
def topB (ops : Array Oper) (k : Nat) : Bool := (List.range k).all fun i => ((List.range k).any fun q => decide (i < q) && bindAt ops q i) || (List.range ops.size).all fun j => decide (j < k) || bindAt ops j i || (List.range j).any fun q => decide (k ≤ q) && bindAt ops j q
def dcB (ops : Array Oper) (listed : Array Bool) : Bool := (List.range ops.size).all fun q => !listed.getD q true || (match ops[q]? with | some o => o.after.all fun e => !Region.binds .any e || listed.getD e.on true | none => true)
def DCl (ops : Array Oper) (listed : Array Bool) : Prop := ∀ q o, ops[q]? = some o → listed.getD q true = true → ∀ e ∈ o.after, Region.binds .any e = true → listed.getD e.on true = true
theorem bindB_spec {o : Oper} {i : Nat} (h : bindB o i = true) : ∃ e ∈ o.after, Region.binds .any e = true ∧ e.on = i := by
 unfold bindB at h
 rw [Array.any_eq_true'] at h
 obtain ⟨e, he, h⟩ := h
 simp only [Bool.and_eq_true, beq_iff_eq] at h
 exact ⟨e, he, h.1, h.2⟩
theorem top_all {listed : Array Bool} (ht : topB ops k = true) (hd : DCl ops listed) : ∀ (m j : Nat) {oj : Oper}, j = m → ops[j]? = some oj → k ≤ j → (∀ e ∈ oj.after, Region.binds .any e = true → listed.getD e.on true = true) →
   ∀ n i, i < k → k - i = n → listed.getD i true = true := by
 intro m
 induction m using Nat.strongRecOn with
 | _ m ihm =>
 intro j oj hjm hj hkj hr n
 subst hjm
 induction n using Nat.strongRecOn with
 | _ n ih =>
   intro i hi hn
   have ht0 := ht
   unfold topB at ht0
   have := List.all_eq_true.1 ht0 i (List.mem_range.2 hi)
   simp only [Bool.or_eq_true] at this
   rcases this with h | h
   · obtain ⟨q, hq, h⟩ := List.any_eq_true.1 h
     simp only [Bool.and_eq_true, decide_eq_true_eq] at h
     have hqk := List.mem_range.1 hq
     have hql := ih (k - q) (by omega) q hqk rfl
     have h2 := h.2
     unfold bindAt at h2
     cases ho : ops[q]? with
     | none => rw [ho] at h2; cases h2
     | some o =>
       rw [ho] at h2
       obtain ⟨e, he, hb, rfl⟩ := bindB_spec h2
       exact hd q o ho hql e he hb
   have h2 := List.all_eq_true.1 h j (List.mem_range.2 (Array.getElem?_eq_some_iff.1 hj).1)
   simp only [Bool.or_eq_true, decide_eq_true_eq] at h2
   rcases h2 with (h2 | h2) | h2
   · omega
   · unfold bindAt at h2
     rw [hj] at h2
     obtain ⟨e, he, hb, rfl⟩ := bindB_spec h2
     exact hr e he hb
   obtain ⟨q, hq, h⟩ := List.any_eq_true.1 h2
   simp only [Bool.and_eq_true, decide_eq_true_eq] at h
   have hqj := List.mem_range.1 hq
   have h3 := h.2
   unfold bindAt at h3
   rw [hj] at h3
   obtain ⟨e, he, hb, rfl⟩ := bindB_spec h3
   have hel := hr e he hb
   have hlt : e.on < ops.size := by have := (Array.getElem?_eq_some_iff.1 hj).1; omega
   exact ihm e.on hqj e.on rfl (Array.getElem?_eq_getElem hlt) h.1 (fun e' he' hb' => hd e.on _ (Array.getElem?_eq_getElem hlt) hel e' he' hb') (k - i) i hi rfl
def ADk (C : Cx) (ops : Array Oper) (Q : Exit → Sta → Prop) (Ok : Sl → Prop) (k : Nat) : Nat → Array Bool → Sta → Prop
 | 0, listed, σ => Region.ready .any ops listed = [] ∧ Q .normal σ
 | f + 1, listed, σ => (Region.ready .any ops listed = [] → Q .normal σ) ∧ ∀ i ∈ Region.ready .any ops listed, ∃ o x T', ops[i]? = some o ∧ o.guard = none ∧ opsOk o σ.n = true ∧ OpJ C o (evA σ.env) σ.T x T' ∧ (Ok T' ∨ k ≤ i) ∧ ADk C ops Q Ok k f (listed.setIfInBounds i true) ⟨putE σ.env o.dst x, T', σ.n⟩
theorem ADk.any : ∀ (f : Nat) (listed : Array Bool) (σ : Sta), ADk C ops Q Ok k f listed σ → AWAny C ops Q f listed σ
 | 0, _, _, h => AWAny.done h.1 h.2
 | f + 1, listed, σ, h => by
   by_cases hr : Region.ready .any ops listed = []
   · exact AWAny.done hr (h.1 hr)
   refine AWAny.all rfl hr fun i hi => ?_
   obtain ⟨o, x, T', h1, h2, h3, h4, _, h6⟩ := h.2 i hi
   exact AWOp.op h1 h2 h3 h4 (ADk.any f _ _ h6)
theorem ADk.first {i : Nat} {oi : Oper} {x : AV} {n : Nat} {ev0 : Operand → AV} (hik : i < k) (ht : topB ops k = true) (hi : ops[i]? = some oi) (hg : oi.guard = none) (hok : opsOk oi n = true) (hj : ∀ T', Ok T' → OpJ C oi ev0 T' x T') :
   ∀ (f : Nat) (listed : Array Bool) (env : Nat → AV) (T : Sl),
     DCl ops listed →
     (∀ j oj, ops[j]? = some oj → j ≠ i → listed.getD j true = false → (∀ e ∈ oj.after, Region.binds .any e = true → e.on ≠ i) → oi.apart ops oj = true) →
     i ∈ Region.ready .any ops listed → (∀ y ∈ oi.op.operands, evA env y = ev0 y) → Ok T →
     ADk C ops Q Ok k f (listed.setIfInBounds i true) ⟨putE env oi.dst x, T, n⟩ → ADk C ops Q Ok k (f + 1) listed ⟨env, T, n⟩ := by
 intro f
 induction f with
 | zero =>
   intro listed env T _ _ hr hev hT H
   refine ⟨fun h => (by rw [h] at hr; cases hr), fun j hjr => ?_⟩
   by_cases hji : j = i
   · subst hji; exact ⟨oi, x, T, hi, hg, hok, (hj T hT).congr hev, .inl hT, H⟩
   have := ready_mono hjr hji
   rw [H.1] at this
   cases this
 | succ f ih =>
   intro listed env T hdc hfree hr hev hT H
   have hun := (mem_ready.1 hr).1
   refine ⟨fun h => (by rw [h] at hr; cases hr), fun j hjr => ?_⟩
   by_cases hji : j = i
   · subst hji; exact ⟨oi, x, T, hi, hg, hok, (hj T hT).congr hev, .inl hT, H⟩
   obtain ⟨oj, y, T', h1, h2, h3, h4, h5, h6⟩ := H.2 j (ready_mono hjr hji)
   obtain ⟨hjun, oj', hoj, hall⟩ := mem_ready.1 hjr
   have : oj' = oj := Option.some.inj (hoj.symm.trans h1)
   subst this
   have hnot : ∀ e ∈ oj'.after, Region.binds .any e = true → e.on ≠ i := fun e he hb heq => by
     have h1 := hall e he hb
     rw [heq, getD_both hun] at h1
     cases h1
   have hready : ∀ e ∈ oj'.after, Region.binds .any e = true → listed.getD e.on true = true := fun e he hb => by
     have := hall e he hb
     cases hq : listed.getD e.on true with
     | true => rfl
     | false => rw [getD_both hq] at this; cases this
   replace h5 : Ok T' := by
     rcases h5 with h5 | h5
     · exact h5
     have := top_all ht hdc j j rfl h1 h5 hready _ i hik rfl
     rw [this] at hun
     cases hun
   obtain ⟨a1, a2, a3⟩ := Oper.apart_spec (hfree j oj' hoj hji hjun hnot)
   have hfree' : ∀ k ok, ops[k]? = some ok → k ≠ i → (listed.setIfInBounds j true).getD k true = false → (∀ e ∈ ok.after, Region.binds .any e = true → e.on ≠ i) → oi.apart ops ok = true := fun k ok hk hki hun hno => by
     refine hfree k ok hk hki ?_ hno
     by_cases hjk : j = k
     · subst hjk; exact hjun
     rw [getD_set_ne true hjk] at hun; exact hun
   have hdc' : DCl ops (listed.setIfInBounds j true) := fun q o ho hq e he hb => by
     by_cases hje : j = e.on
     · rw [← hje]
       by_cases hs : j < listed.size
       · simp [Array.getD_eq_getD_getElem?, hs]
       simp [Array.getD_eq_getD_getElem?, hs]
     rw [getD_set_ne true hje]
     by_cases hjq : j = q
     · subst hjq
       have : o = oj' := Option.some.inj (ho.symm.trans hoj)
       subst this
       exact hready e he hb
     rw [getD_set_ne true hjq] at hq
     exact hdc q o ho hq e he hb
   refine ⟨oj', y, T', h1, h2, h3, h4.congr fun q hq => (evA_put a1 q hq).symm, .inl h5, ?_⟩
   refine ih _ _ _ hdc' hfree' (ready_mono hr (Ne.symm hji)) (fun q hq => (evA_put a3 q hq).trans (hev q hq)) h5 ?_
   rw [Array.setIfInBounds_comm _ _ hji]
   rw [putE_comm (fun t ht ht' => a2 t ht ht')] at h6
   exact h6
variable {fuel : Nat} {listed : Array Bool} {o : Oper} {env : Nat → AV} {T T' : Sl} {n : Nat} {x : AV}
end
section
variable {C : Cx} {o : Oper} {ev : Operand → AV} {T : Sl} {t : TypeId} {p : Operand} {x : Int}
theorem op_negi (ho : o.op = .unOp .neg t p) (hp : ev p = .v (.int .i64 x)) (h : -9223372036854775807 ≤ x ∧ x ≤ 9223372036854775807) : OpP C o ev T (.v (.int .i64 (-x))) :=
 op_un ho hp (fun w => by
   have : IntKind.i64.wrap (-x) = -x := by exact IntWalk.i64_in _ (by omega)
   simp [Op.unary, Op.intArith, this]) rfl
end
section
variable {C : Cx} {T : Sl} {S : Nat → Prop} {vals : List Value} {bss : List (List Nat)} {w : World}
theorem nm_open {r k : Nat} {u : Value} {e : TypeId} {es : List (List AV)} (hm : Mem C T S vals bss w) (hT : T.slots[r]? = some (k, .nm u e es)) :
   ∃ vals' bss', Mem C ⟨T.slots.set r (T.ep, .own e es), T.ep + 1⟩ S vals' bss' w ∧ Follows C.P S w T vals S w ⟨T.slots.set r (T.ep, .own e es), T.ep + 1⟩ vals' ∧
     TmpOK C.P S w ⟨T.slots.set r (T.ep, .own e es), T.ep + 1⟩ vals' u (.sl r T.ep 0 es.length) := by
 obtain ⟨v, bs, hv, hb, hrep⟩ := hm.slot hT
 have hnm : v = u ∧ Rep C.P S w bs u (.own e es) := by
   cases hrep with
   | nm h => exact ⟨rfl, h⟩
 obtain ⟨rfl, hr1⟩ := hnm
 have hrl : r < T.slots.length := (List.getElem?_eq_some_iff.1 hT).1
 obtain ⟨hm1, hf1⟩ := hm.set (k' := T.ep) (ep' := T.ep + 1) hT hv hb (Kept.refl _ w) hr1 (hm.nodup r bs hb) (fun b h => .inl h) (.inr ⟨rfl, rfl⟩)
 refine ⟨_, _, hm1, hf1, ?_⟩
 refine ⟨Nat.lt_succ_self _, hr1.one, fun e2 es2 v2 sz2 q1 q2 q3 => ?_⟩
 rw [getElem?_set_ _ _ _ _ hrl, if_pos rfl] at q1
 rw [getElem?_set_ _ _ _ _ (by rw [hm.nv]; exact hrl), if_pos rfl] at q2
 injection q1 with q1; injection q1 with _ q1; injection q1 with q1 q4
 injection q2 with q2
 subst q1; subst q2; subst q4
 obtain ⟨us1, sz1, bss1, -, hi1, hsz1, hown1, -⟩ := hr1.own_inv
 refine ⟨by omega, ?_⟩
 rcases hown1.2 with ⟨hnil, h0'⟩ | ⟨g, cap', cur, hcap, -, -, p1, p2, -⟩
 · exact ⟨none, 0, 0, hnil, by omega, Nat.le_refl _, by unfold maxLen; omega, .inl ⟨rfl, by rw [hnil, h0']⟩⟩
 exact ⟨_, _, _, hcap, by omega, p1, p2, .inl ⟨rfl, hcap⟩⟩
end
section
variable {C : Cx} {Q : Exit → Sta → Prop} {σ : Sta}
theorem Gh.openN {r k : Nat} {u : Value} {e : TypeId} {es : List (List AV)} (t : Nat) (ht : t < σ.n) (hv : σ.env t = .v u) (hT : σ.T.slots[r]? = some (k, .nm u e es)) :
   Gh C σ ⟨upd σ.env t (.sl r σ.T.ep 0 es.length), ⟨σ.T.slots.set r (σ.T.ep, .own e es), σ.T.ep + 1⟩, σ.n⟩ := by
 intro a w ⟨hd, hn, S, vals, bss, hm, he⟩
 obtain ⟨vals', bss', hm', hf, hu⟩ := nm_open hm hT
 refine ⟨hd, hn, S, vals', bss', hm', fun q hq => ?_⟩
 show TmpOK _ _ _ _ _ _ (upd σ.env t _ q)
 unfold upd
 split
 · rename_i h
   subst h
   have := he q hq
   rw [hv] at this
   rw [this.v]
   exact hu
 exact TmpOK.follows hf (he q hq)
end
section
open Go.Sort
variable {α : Type} [Inhabited α] {enc : α → Value}
def rowE (enc : α → Value) (x : α) : List AV := [.v (enc x)]
theorem holdsE {w : World} {g : Nat} {cur : Array Value} {e : TypeId} {ss : List α} (hb : w.heap[g]? = some (.cells cur e (0, 0))) (ht : cur.toList.take ss.length = ss.map enc) : Holds enc w g 0 ss.toArray := by
 intro j hj
 have hj' : j < ss.length := by simpa using hj
 refine ⟨?_, by simp [World.frozen?, hb]⟩
 have h1 : (cur.toList.take ss.length)[j]? = (ss.map enc)[j]? := by rw [ht]
 rw [List.getElem?_take_of_lt hj'] at h1
 simp only [World.cell?, hb, Nat.zero_add]
 simp only [Option.isSome_none, Bool.false_eq_true, if_false]
 rw [← Array.getElem?_toList, h1]
 simp [hj']
theorem heapE {w : World} {g n : Nat} {os : Array Obj} {cur : Array Value} {e : TypeId} {fr : Nat × Nat} (d : Array α) (hb : w.heap[g]? = some (.cells cur e fr)) :
   (grow (putRow enc (Sort.ahead w n) g 0 d) os).heap[g]? = some (.cells (putCells enc 0 d cur) e fr) := by
 have hg : g < w.heap.size := (Array.getElem?_eq_some_iff.1 hb).1
 rw [heap_grow_old _ _ (by simpa using hg)]
 simp [putRow, mapBlock, Sort.ahead, Array.getElem?_modify, hb, onCells]
theorem keptE {w : World} {g n : Nat} {os : Array Obj} (d : Array α) : Kept (fun k => k ≠ g) w (grow (putRow enc (Sort.ahead w n) g 0 d) os) := by
 refine ⟨rfl, rfl, rfl, by simp, fun k hk hne => ?_⟩
 rw [heap_grow_old _ _ (by simpa using hk)]
 have : g ≠ k := fun e => hne e.symm
 simp [putRow, mapBlock, Sort.ahead, Array.getElem?_modify, this]
theorem kept_grow {w : World} {os : Array Obj} : Kept (fun _ => True) w (grow w os) := ⟨rfl, rfl, rfl, by simp, fun k hk _ => heap_grow_old _ _ hk⟩
theorem takeE (cur : Array Value) (ts : List α) (h : ts.length ≤ cur.size) : (putCells enc 0 ts.toArray cur).toList.take ts.length = ts.map enc := by
 apply List.ext_getElem?
 intro j
 by_cases hj : j < ts.length
 · rw [List.getElem?_take_of_lt hj, Array.getElem?_toList]
   simp [putCells, hj, show j < cur.size by omega]
 rw [List.getElem?_take_eq_none (by omega), List.getElem?_eq_none (by simp; omega)]
def sortN (lt : α → α → Bool) (ds : List α) : List α := if ds.length ≤ 1 then ds else (Sort.insertionSort lt ds.toArray 0 ds.toArray.size).toList
end
section
open Go.Sort
variable {C : Cx} {o : Oper} {ev : Operand → AV} {T : Sl} {α : Type} [Inhabited α] {enc : α → Value}
end
section
variable {C : Cx} {σ : Sta}
end
section
variable {C : Cx} {o : Oper} {ev : Operand → AV} {T : Sl}
theorem mem_at (h0 : 0 < T.ep) {S : Nat → Prop} {vals : List Value} {bss : List (List Nat)} {w : World} {r k0 : Nat} {y : AV} (hT : T.slots[r]? = some (k0, .any)) (hm : Mem C (pushT T y) S vals bss w) :
   ∃ vals' bss', Mem C ⟨T.slots.set r (T.ep, y), T.ep + 1⟩ S vals' bss' w ∧ vals'[r]? = vals[T.slots.length]? ∧ ∀ q, q < T.slots.length → q ≠ r → vals'[q]? = vals[q]? := by
 have hrl : r < T.slots.length := (List.getElem?_eq_some_iff.1 hT).1
 have hL : (pushT T y).slots[T.slots.length]? = some (T.ep, y) := by simp [pushT]
 have hup : ∀ q, q < T.slots.length → (pushT T y).slots[q]? = T.slots[q]? := fun q hq => by
   show (T.slots ++ [_])[q]? = _
   rw [List.getElem?_append_left hq]
 have hnv : vals.length = T.slots.length + 1 := by rw [hm.nv]; simp [pushT]
 have hnb : bss.length = T.slots.length + 1 := by rw [hm.nb]; simp [pushT]
 obtain ⟨v, bs, hv, hb, hrep⟩ := hm.slot hL
 -- the place in the larger list
 let f : Nat → Nat := fun q => if q = r then T.slots.length else q
 have gv : ∀ q, ((vals.take T.slots.length).set r v)[q]? = if q < T.slots.length then vals[f q]? else none := fun q => by
   by_cases hq : q < T.slots.length
   · rw [if_pos hq, getElem?_set_ _ _ _ _ (by rw [List.length_take]; omega)]
     by_cases he : q = r
     · subst he; rw [if_pos rfl]; show _ = vals[f q]?; rw [show f q = T.slots.length from if_pos rfl, hv]
     rw [if_neg (fun e => he e.symm), List.getElem?_take_of_lt hq, show f q = q from if_neg he]
   rw [if_neg hq, List.getElem?_eq_none]; rw [List.length_set, List.length_take]; omega
 have gb : ∀ q, ((bss.take T.slots.length).set r bs)[q]? = if q < T.slots.length then bss[f q]? else none := fun q => by
   by_cases hq : q < T.slots.length
   · rw [if_pos hq, getElem?_set_ _ _ _ _ (by rw [List.length_take]; omega)]
     by_cases he : q = r
     · subst he; rw [if_pos rfl]; show _ = bss[f q]?; rw [show f q = T.slots.length from if_pos rfl, hb]
     rw [if_neg (fun e => he e.symm), List.getElem?_take_of_lt hq, show f q = q from if_neg he]
   rw [if_neg hq, List.getElem?_eq_none]; rw [List.length_set, List.length_take]; omega
 have gs : ∀ q, (T.slots.set r (T.ep, y))[q]? = if q < T.slots.length then (pushT T y).slots[f q]? else none := fun q => by
   by_cases hq : q < T.slots.length
   · rw [if_pos hq, getElem?_set_ _ _ _ _ hrl]
     by_cases he : q = r
     · subst he; rw [if_pos rfl]; rw [show f q = T.slots.length from if_pos rfl, hL]
     rw [if_neg (fun e => he e.symm), show f q = q from if_neg he, hup q hq]
   rw [if_neg hq, List.getElem?_eq_none]; rw [List.length_set]; omega
 have fi : ∀ q q', q < T.slots.length → q' < T.slots.length → q ≠ q' → f q ≠ f q' := fun q q' h1 h2 hne => by
   show (if q = r then _ else _) ≠ (if q' = r then _ else _)
   split <;> split <;> omega
 have un : ∀ {β : Type} {l : Option β} {q : Nat} {x : β}, (if q < T.slots.length then l else none) = some x → q < T.slots.length ∧ l = some x := fun h => by
   split at h
   · exact ⟨by assumption, h⟩
   cases h
 refine ⟨(vals.take T.slots.length).set r v, (bss.take T.slots.length).set r bs, ⟨hm.kept, hm.s0, hm.sub, hm.lt, by rw [List.length_set, List.length_set, List.length_take]; omega, by rw [List.length_set, List.length_set, List.length_take]; omega, ?_, ?_, ?_, ?_, ?_, ?_, ?_, by show 0 < T.ep + 1; omega⟩, ?_, ?_⟩
 · intro q k x u b h1 h2 h3
   rw [gs] at h1; rw [gv] at h2; rw [gb] at h3
   exact hm.rep (f q) k x u b (un h1).2 (un h2).2 (un h3).2
 · intro q b h
   rw [gb] at h
   exact hm.nodup _ b (un h).2
 · intro q q' b b' hne h1 h2
   rw [gb] at h1 h2
   exact hm.disj _ _ b b' (fi q q' (un h1).1 (un h2).1 hne) (un h1).2 (un h2).2
 · intro q b h
   rw [gb] at h
   exact hm.apart _ b (un h).2
 · intro q b h
   rw [gb] at h
   exact hm.mine _ b (un h).2
 · intro q x hq h
   rw [gs] at h
   obtain ⟨hql, h⟩ := un h
   rw [gv, if_pos hql]
   by_cases he : q = r
   · subst he
     rw [show f q = T.slots.length from if_pos rfl, hL] at h
     injection h with h
     injection h with h
     omega
   rw [show f q = q from if_neg he] at h ⊢
   exact hm.root q x hq h
 · intro q k x h
   rw [gs] at h
   exact hm.ver (f q) k x (un h).2
 · rw [gv, if_pos hrl]; show vals[f r]? = _; rw [show f r = T.slots.length from if_pos rfl]
 intro q hq hne
 rw [gv, if_pos hq, show f q = q from if_neg hne]
theorem follows_at {S S' : Nat → Prop} {vals vals1 vals' : List Value} {w w' : World} {r k0 : Nat} {y : AV} (hT : T.slots[r]? = some (k0, .any)) (hf : Follows C.P S w T vals S' w' (pushT T y) vals1) (hl : vals.length = T.slots.length)
   (hq : ∀ q, q < T.slots.length → q ≠ r → vals'[q]? = vals1[q]?) : Follows C.P S w T vals S' w' ⟨T.slots.set r (T.ep, y), T.ep + 1⟩ vals' := by
 have hrl : r < T.slots.length := (List.getElem?_eq_some_iff.1 hT).1
 have key : ∀ {q k : Nat} {x : AV}, k < T.ep → (T.slots.set r (T.ep, y))[q]? = some (k, x) → q < T.slots.length ∧ q ≠ r ∧ (pushT T y).slots[q]? = some (k, x) := fun {q k x} hk h => by
   have hql : q < T.slots.length := by have := (List.getElem?_eq_some_iff.1 h).1; rwa [List.length_set] at this
   rw [getElem?_set_ _ _ _ _ hrl] at h
   by_cases he : r = q
   · rw [if_pos he] at h
     injection h with h
     injection h with h
     omega
   rw [if_neg he] at h
   refine ⟨hql, fun e => he e.symm, ?_⟩
   show (T.slots ++ [_])[q]? = _
   rw [List.getElem?_append_left hql]
   exact h
 intro u x hx
 have hx' := hf u x hx
 cases x with
 | sl q k off len => exact ⟨Nat.lt_succ_of_lt hx.1, hx.2.1, fun e es v sz q1 q2 q3 => by
     obtain ⟨a1, a2, a3⟩ := key hx.1 q1
     rw [hq q a1 a2] at q2
     exact hx'.2.2 e es v sz a3 q2 q3⟩
 | ptr q k i j => exact ⟨Nat.lt_succ_of_lt hx.1, hx.2.1, fun e es v sz q1 q2 q3 => by
     obtain ⟨a1, a2, a3⟩ := key hx.1 q1
     rw [hq q a1 a2] at q2
     exact hx'.2.2 e es v sz a3 q2 q3⟩
 | mp q k => exact ⟨Nat.lt_succ_of_lt hx.1, hx.2.1, fun b ks v q1 q2 => by
     obtain ⟨a1, a2, a3⟩ := key hx.1 q1
     rw [hq q a1 a2] at q2
     exact hx'.2.2 b ks v a3 q2⟩
 | _ => exact hx'
theorem OpJ.at {e : TypeId} {es : List (List AV)} {len k0 : Nat} (r : Nat) (hT : T.slots[r]? = some (k0, .any)) (h : OpJ C o ev T (.sl T.slots.length T.ep 0 len) (pushT T (.own e es))) {T' : Sl} (hT' : (⟨T.slots.set r (T.ep, .own e es), T.ep + 1⟩ : Sl) = T') : OpJ C o ev T (.sl r T.ep 0 len) T' := by
 subst hT'
 intro a w S vals bss hm0 ho K hK Q
 have hrl : r < T.slots.length := (List.getElem?_eq_some_iff.1 hT).1
 refine h a w S vals bss hm0 ho K (fun v w' S' vals' bss' hm hf hv => ?_) Q
 obtain ⟨vals2, bss2, hm2, hv1, hv2⟩ := mem_at hm0.pos hT hm
 refine hK v w' S' vals2 bss2 hm2 (follows_at hT hf hm0.nv hv2) ⟨Nat.lt_succ_self _, hv.2.1, fun e2 es2 v2 sz2 q1 q2 q3 => ?_⟩
 rw [getElem?_set_ _ _ _ _ hrl, if_pos rfl] at q1
 injection q1 with q1
 injection q1 with _ q1
 rw [hv1] at q2
 exact hv.2.2 e2 es2 v2 sz2 (by rw [← q1]; simp [pushT]) q2 q3
theorem op_mkiface {t : TypeId} {y : Operand} {u : Value} (ho : o.op = .makeInterface t y) (hy : ev y = .v u) (hc : C.P.concrete t = true) : OpP C o ev T (.v (.iface t u)) := by
 intro a w S vals bss hm h
 have h1 := h y (by simp [ho, Op.operands])
 rw [hy] at h1
 exact ⟨_, fun w => by simp [execOp, ho, h1.v, run_makeInterface w t u hc], TmpOK.v_ rfl⟩
end
section
variable {C : Cx} {Q : Exit → Sta → Prop} {ops : Array Oper} {Ok : Sl → Prop} {fuel : Nat} {listed : Array Bool} {env : Nat → AV} {T : Sl} {n : Nat}
end
abbrev slv (g n c : Nat) : Value := .slice (some ⟨g, 0, none⟩) n c
abbrev ptv (g j : Nat) : Value := .pointer (some ⟨g, j, none⟩)
section
variable {C : Cx} {T : Sl} {S : Nat → Prop} {vals : List Value} {bss : List (List Nat)} {w : World}
theorem Rep.nm_inv {P : Program} {bs : List Nat} {v u : Value} {e : TypeId} {es : List (List AV)} (h : Rep P S w bs v (.nm u e es)) : v = u ∧ Rep P S w bs u (.own e es) := by
 cases h with
 | nm h => exact ⟨rfl, h⟩
theorem set_same {α : Type} {l : List α} {r : Nat} {x : α} (h : l[r]? = some x) : l.set r x = l := by
 apply List.ext_getElem?
 intro j
 rw [List.getElem?_set]
 split
 · rename_i e; subst e; rw [if_pos (List.getElem?_eq_some_iff.1 h).1, h]
 rfl
/-- A slot gets its name. -/
theorem Mem.name {r k : Nat} {u : Value} {e : TypeId} {es : List (List AV)} (hm : Mem C T S vals bss w) (hT : T.slots[r]? = some (k, .own e es)) (hv : vals[r]? = some u) :
   Mem C ⟨T.slots.set r (k, .nm u e es), T.ep⟩ S vals bss w ∧ Follows C.P S w T vals S w ⟨T.slots.set r (k, .nm u e es), T.ep⟩ vals := by
 obtain ⟨v, bs, hv', hb, hrep⟩ := hm.slot hT
 obtain rfl : u = v := Option.some.inj (hv.symm.trans hv')
 have := hm.set (k' := k) (ep' := T.ep) hT hv hb (Kept.refl _ w) (.nm hrep) (hm.nodup r bs hb) (fun b h => .inl h) (.inl ⟨rfl, rfl, rfl, (fun e es h => by cases h), (fun b ks h => by cases h)⟩)
 rwa [set_same hv, set_same hb] at this
end
section
variable {C : Cx} {o : Oper} {ev : Operand → AV} {T : Sl}
def OpX (C : Cx) (o : Oper) (ev : Operand → AV) (T : Sl) (p : AV → Sl → Prop) : Prop :=
 ∀ (a : Act) (w : World) (S : Nat → Prop) (vals : List Value) (bss : List (List Nat)), Mem C T S vals bss w → (∀ y ∈ o.op.operands, TmpOK C.P S w T vals (a.eval y) (ev y)) →
   ∀ (K : Act → World → Prop), (∀ x T', p x T' → ∀ v w' S' vals' bss', Mem C T' S' vals' bss' w' → Follows C.P S w T vals S' w' T' vals' → TmpOK C.P S' w' T' vals' v x → K (a.put o.dst v) w') → ∀ Q, o.wp C.P a w K Q
theorem OpJ.x {x : AV} {T' : Sl} (h : OpJ C o ev T x T') : OpX C o ev T fun y T'' => y = x ∧ T'' = T' := fun a w S vals bss hm ho K hK Q =>
 h a w S vals bss hm ho K (fun v w' S' vals' bss' h1 h2 h3 => hK _ _ ⟨rfl, rfl⟩ v w' S' vals' bss' h1 h2 h3) Q
theorem OpX.congr {ev' : Operand → AV} {p : AV → Sl → Prop} (h : OpX C o ev T p) (he : ∀ y ∈ o.op.operands, ev' y = ev y) : OpX C o ev' T p :=
 fun a w S vals bss hm ho => h a w S vals bss hm fun y hy => by rw [← he y hy]; exact ho y hy
/-- All slots are lent to a closure over plain values. -/
def nmB : AV → AV → Prop
 | .nm u e _, x => ∃ es, x = .nm u e es
 | _, _ => False
end
section
variable {C : Cx} {Q : Exit → Sta → Prop} {σ : Sta}
/-- What every state says. -/
theorem AW.pure {c : Code} {p : Prop} (hp : ∀ a w, St C σ a w → p) (h : p → AW C c Q σ) : AW C c Q σ := fun a w hs => h (hp a w hs) a w hs
theorem AWL.pure {ops : Array Oper} {l : List Oper} {p : Prop} (hp : ∀ a w, St C σ a w → p) (h : p → AWL C ops Q l σ) : AWL C ops Q l σ := fun a w hs => h (hp a w hs) a w hs
end
section
variable {C : Cx} {ops : Array Oper} {Q : Exit → Sta → Prop} {Ok : Sl → Prop}
/-- What is known of an operation's guard: t: it is carried out. -/
def Want (ops : Array Oper) (env : Nat → AV) (n : Nat) (o : Oper) (t : Bool) : Prop :=
 (o.guard = none ∧ t = true) ∨ ∃ g p o' d b, o.guard = some (g, p) ∧ ops[g]? = some o' ∧ o'.dst = some d ∧ d < n ∧ env d = .v (.bool b) ∧ t = (b == p)
theorem Want.put {env : Nat → AV} {n : Nat} {oi o : Oper} {t : Bool} {x : AV} (h : Want ops (putE env oi.dst x) n o t) (ha : ∀ d, oi.dst = some d → d ∉ o.looksAt ops) : Want ops env n o t := by
 rcases h with h | ⟨g, p, o', d, b, h1, h2, h3, h4, h5, h6⟩
 · exact .inl h
 refine .inr ⟨g, p, o', d, b, h1, h2, h3, h4, ?_, h6⟩
 have hne : oi.dst ≠ some d := fun he => ha d he (by simp [Oper.looksAt, h1, h2, h3])
 cases hd : oi.dst with
 | none => rw [hd] at h5; exact h5
 | some q =>
   rw [hd] at h5
   have hqd : ¬ d = q := fun e => hne (by rw [hd, e])
   have h5' : upd env q x d = .v (.bool b) := h5
   unfold upd at h5'
   rwa [if_neg hqd] at h5'
def AX (C : Cx) (ops : Array Oper) (Q : Exit → Sta → Prop) (Ok : Sl → Prop) : Nat → Array Bool → Sta → Prop
 | 0, listed, σ => Region.ready .any ops listed = [] ∧ Q .normal σ
 | f + 1, listed, σ => (Region.ready .any ops listed = [] → Q .normal σ) ∧ ∀ i ∈ Region.ready .any ops listed, ∃ o t, ops[i]? = some o ∧ Want ops σ.env σ.n o t ∧ opsOk o σ.n = true ∧
     (t = true → ∃ p, OpX C o (evA σ.env) σ.T p ∧ ∀ x T', p x T' → Ok T' ∧ AX C ops Q Ok f (listed.setIfInBounds i true) ⟨putE σ.env o.dst x, T', σ.n⟩) ∧
     (t = false → AX C ops Q Ok f (listed.setIfInBounds i true) ⟨putE σ.env o.dst .any, σ.T, σ.n⟩)
theorem AWOp.want {i : Nat} {o : Oper} {K : Sta → Prop} {σ : Sta} {t : Bool} (hi : ops[i]? = some o) (hw : Want ops σ.env σ.n o t) (ho : opsOk o σ.n = true)
   (h1 : t = true → ∃ p, OpX C o (evA σ.env) σ.T p ∧ ∀ x T', p x T' → K ⟨putE σ.env o.dst x, T', σ.n⟩) (h2 : t = false → K ⟨putE σ.env o.dst .any, σ.T, σ.n⟩) : AWOp C ops Q i K σ := by
 intro a w hs K' hK
 have hwt : Region.wanted o (yielded ops a.tmps) = t := by
   rcases hw with ⟨hg, rfl⟩ | ⟨g, p, o', d, b, hg, ho', hd, hdn, hv, rfl⟩
   · simp [Region.wanted, hg]
   have hb := hs.bool (c := .tmp d) (t := b) (by simpa [noneBig] using hdn) rfl hv
   have hlt : d < a.tmps.size := by obtain ⟨-, hn, -⟩ := hs; rw [hn]; exact hdn
   simp [Act.eval, hlt] at hb
   cases b <;> cases p <;> simp [Region.wanted, hg, yielded, ho', hd, hlt, hb]
 obtain ⟨hd, hn, S, vals, bss, hm, he⟩ := hs
 unfold wpOp
 simp only [hi, hwt]
 cases t with
 | true =>
   obtain ⟨p, hj, h⟩ := h1 rfl
   rw [if_pos rfl]
   exact .inl (hj a w S vals bss hm (St.ops hn he ho) K' (fun x T' hp v w' S' vals' bss' hm' hf hx => hK _ _ _ (h x T' hp) (St.put hd hn he hm' hf hx)) _)
 | false =>
   rw [if_neg (by simp)]
   exact hK _ _ _ (h2 rfl) (St.put hd hn he hm Follows.refl TmpOK.any_)
theorem AX.any : ∀ (f : Nat) (listed : Array Bool) (σ : Sta), AX C ops Q Ok f listed σ → AWAny C ops Q f listed σ
 | 0, _, _, h => AWAny.done h.1 h.2
 | f + 1, listed, σ, h => by
   by_cases hr : Region.ready .any ops listed = []
   · exact AWAny.done hr (h.1 hr)
   refine AWAny.all rfl hr fun i hi => ?_
   obtain ⟨o, t, h1, h2, h3, h4, h5⟩ := h.2 i hi
   exact AWOp.want h1 h2 h3 (fun ht => by obtain ⟨p, hp, hk⟩ := h4 ht; exact ⟨p, hp, fun x T' hx => AX.any f _ _ (hk x T' hx).2⟩) fun ht => AX.any f _ _ (h5 ht)
theorem AX.first {i : Nat} {oi : Oper} {x : AV} {n : Nat} {ev0 : Operand → AV} (hi : ops[i]? = some oi) (hg : oi.guard = none) (hok : opsOk oi n = true) (hj : ∀ T', Ok T' → OpJ C oi ev0 T' x T') :
   ∀ (f : Nat) (listed : Array Bool) (env : Nat → AV) (T : Sl),
     (∀ j oj, ops[j]? = some oj → j ≠ i → listed.getD j true = false → (∀ e ∈ oj.after, Region.binds .any e = true → e.on ≠ i) → oi.apart ops oj = true) →
     i ∈ Region.ready .any ops listed → (∀ y ∈ oi.op.operands, evA env y = ev0 y) → Ok T →
     AX C ops Q Ok f (listed.setIfInBounds i true) ⟨putE env oi.dst x, T, n⟩ → AX C ops Q Ok (f + 1) listed ⟨env, T, n⟩ := by
 intro f
 have self : ∀ (f : Nat) (listed : Array Bool) (env : Nat → AV) (T : Sl), (∀ y ∈ oi.op.operands, evA env y = ev0 y) → Ok T → AX C ops Q Ok f (listed.setIfInBounds i true) ⟨putE env oi.dst x, T, n⟩ →
     ∃ o t, ops[i]? = some o ∧ Want ops env n o t ∧ opsOk o n = true ∧ (t = true → ∃ p, OpX C o (evA env) T p ∧ ∀ x T', p x T' → Ok T' ∧ AX C ops Q Ok f (listed.setIfInBounds i true) ⟨putE env o.dst x, T', n⟩) ∧ (t = false → AX C ops Q Ok f (listed.setIfInBounds i true) ⟨putE env o.dst .any, T, n⟩) :=
   fun f listed env T hev hT H => ⟨oi, true, hi, .inl ⟨hg, rfl⟩, hok, fun _ => ⟨_, ((hj T hT).congr hev).x, by rintro y T' ⟨rfl, rfl⟩; exact ⟨hT, H⟩⟩, fun h => by cases h⟩
 induction f with
 | zero =>
   intro listed env T _ hr hev hT H
   refine ⟨fun h => (by rw [h] at hr; cases hr), fun j hjr => ?_⟩
   by_cases hji : j = i
   · subst hji; exact self 0 listed env T hev hT H
   have := ready_mono hjr hji
   rw [H.1] at this
   cases this
 | succ f ih =>
   intro listed env T hfree hr hev hT H
   have hun := (mem_ready.1 hr).1
   refine ⟨fun h => (by rw [h] at hr; cases hr), fun j hjr => ?_⟩
   by_cases hji : j = i
   · subst hji; exact self (f + 1) listed env T hev hT H
   obtain ⟨oj, t, h1, h2, h3, h4, h5⟩ := H.2 j (ready_mono hjr hji)
   obtain ⟨hjun, oj', hoj, hall⟩ := mem_ready.1 hjr
   have : oj' = oj := Option.some.inj (hoj.symm.trans h1)
   subst this
   have hnot : ∀ e ∈ oj'.after, Region.binds .any e = true → e.on ≠ i := fun e he hb heq => by
     have h1 := hall e he hb
     rw [heq, getD_both hun] at h1
     cases h1
   obtain ⟨a1, a2, a3⟩ := Oper.apart_spec (hfree j oj' hoj hji hjun hnot)
   have hfree' : ∀ k ok, ops[k]? = some ok → k ≠ i → (listed.setIfInBounds j true).getD k true = false → (∀ e ∈ ok.after, Region.binds .any e = true → e.on ≠ i) → oi.apart ops ok = true := fun k ok hk hki hun hno => by
     refine hfree k ok hk hki ?_ hno
     by_cases hjk : j = k
     · subst hjk; exact hjun
     rw [getD_set_ne true hjk] at hun; exact hun
   have step : ∀ (y : AV) (T' : Sl), Ok T' → AX C ops Q Ok f ((listed.setIfInBounds i true).setIfInBounds j true) ⟨putE (putE env oi.dst x) oj'.dst y, T', n⟩ → AX C ops Q Ok (f + 1) (listed.setIfInBounds j true) ⟨putE env oj'.dst y, T', n⟩ := fun y T' h6 h7 => by
     refine ih _ _ _ hfree' (ready_mono hr (Ne.symm hji)) (fun q hq => (evA_put a3 q hq).trans (hev q hq)) h6 ?_
     rw [Array.setIfInBounds_comm _ _ hji]
     rw [putE_comm (fun t ht ht' => a2 t ht ht')] at h7
     exact h7
   refine ⟨oj', t, h1, h2.put a1, h3, fun ht => ?_, fun ht => step _ _ hT (h5 ht)⟩
   obtain ⟨p, hp, hk⟩ := h4 ht
   exact ⟨p, hp.congr fun q hq => (evA_put a1 q hq).symm, fun y T' hy => ⟨(hk y T' hy).1, step _ _ (hk y T' hy).1 (hk y T' hy).2⟩⟩
end
section
variable {C : Cx} {Q : Exit → Sta → Prop} {ops : Array Oper} {Ok : Sl → Prop} {fuel : Nat} {listed : Array Bool} {o : Oper} {env : Nat → AV} {T T' : Sl} {n : Nat} {x : AV} {p : AV → Sl → Prop}
/-- What is to be shown of an operation that may come next. -/
def AXi (C : Cx) (ops : Array Oper) (Q : Exit → Sta → Prop) (Ok : Sl → Prop) (fuel : Nat) (listed : Array Bool) (env : Nat → AV) (T : Sl) (n i : Nat) : Prop :=
 ∃ o t, ops.toList[i]? = some o ∧ Want ops env n o t ∧ opsOk o n = true ∧ (t = true → ∃ p, OpX C o (evA env) T p ∧ ∀ x T', p x T' → Ok T' ∧ AX C ops Q Ok fuel (listed.setIfInBounds i true) ⟨putE env o.dst x, T', n⟩) ∧
   (t = false → AX C ops Q Ok fuel (listed.setIfInBounds i true) ⟨putE env o.dst .any, T, n⟩)
theorem AXi.mk {i : Nat} (hi : ops.toList[i]? = some o) (hj : OpX C o (evA env) T p) (h : ∀ x T', p x T' → Ok T' ∧ AX C ops Q Ok fuel (listed.setIfInBounds i true) ⟨putE env o.dst x, T', n⟩) (hg : o.guard = none := by rfl) (ho : opsOk o n = true := by rfl) : AXi C ops Q Ok fuel listed env T n i := ⟨o, true, hi, .inl ⟨hg, rfl⟩, ho, fun _ => ⟨p, hj, h⟩, fun h => by cases h⟩
theorem AXi.no {i : Nat} {o' : Oper} (g d : Nat) {b : Bool} (hi : ops.toList[i]? = some o) (h : AX C ops Q Ok fuel (listed.setIfInBounds i true) ⟨putE env o.dst .any, T, n⟩) (hv : env d = .v (.bool b)) (hg : o.guard = some (g, !b)) (ho' : ops.toList[g]? = some o') (hd : o'.dst = some d) (hdn : Nat.ble (d + 1) n = true) (ho : opsOk o n = true := by rfl) : AXi C ops Q Ok fuel listed env T n i :=
 ⟨o, false, hi, .inr ⟨g, !b, o', d, b, hg, atL ho', hd, Nat.le_of_ble_eq_true hdn, hv, by cases b <;> rfl⟩, ho, fun h => (by cases h), fun _ => h⟩
theorem AXi.ready {i : Nat} (hne : Region.ready .any ops listed ≠ []) (h : AXi C ops Q Ok fuel listed env T n i) : ∃ o t, ops[i]? = some o ∧ Want ops env n o t ∧ opsOk o n = true ∧ (t = true → ∃ p, OpX C o (evA env) T p ∧ ∀ x T', p x T' → Ok T' ∧ AX C ops Q Ok fuel (listed.setIfInBounds i true) ⟨putE env o.dst x, T', n⟩) ∧
   (t = false → AX C ops Q Ok fuel (listed.setIfInBounds i true) ⟨putE env o.dst .any, T, n⟩) := by
 obtain ⟨o, t, h1, h2⟩ := h
 exact ⟨o, t, atL h1, h2⟩
end
def nmE (u : Value) (e : TypeId) (es : List (List AV)) : AV := if es = [] then .any else .nm u e es
section
variable {C : Cx} {o : Oper} {ev : Operand → AV} {T : Sl}
/-- []T{} -/
theorem op_lit0 {t e : TypeId} {sz : Nat} (ho : o.op = .buildSlice t 0 #[]) (ht : C.P.underlying t = some (.slice e)) (hi : sizeIs C.P e sz) : OpJ C o ev T (.rof []) T := by
 intro a w S vals bss hm h K hK Q
 have hsz := run_sizeOf (P := C.P) hi w
 have hrun : (execOp a.eval o).run C.P w = .ok (.value (.slice (some ⟨w.heap.size, 0, none⟩) 0 0)) (w.alloc (.cells #[] e)) := by
   have he : execOp a.eval o = (do let v ← Instr.buildSlice t 0 #[]; pure (Next.value v) : Sem Next) := by simp [execOp, ho]
   rw [he]
   simp [Instr.buildSlice, run_underlying ht, hsz, newRow, Instr.fill, Array.range_zero']
 have hk : Kept (fun _ => True) w (w.alloc (.cells #[] e)) := (Kept.refl _ _).alloc _
 unfold Oper.wp
 rw [hrun, Oper.upon_value]
 refine hK _ _ _ _ _ (hm.grow hk) (Follows.kept hk (fun _ _ _ => trivial) (fun _ h => h)) ?_
 exact Rep.rof (es := []) (us := []) (sz := sz) (by simp [maxLen]) (by simp) (fun h => absurd h (by simp)) rfl (by simp)
end
section
variable {C : Cx} {σ : Sta}
end
section
variable {C : Cx} {o : Oper} {ev : Operand → AV} {T : Sl}
theorem RefOK.repA {P : Program} {S : Nat → Prop} {w : World} {T : Sl} {vals : List Value} {u : Value} {x : AV} (h : RefOK P S w T vals u x) (hx : repA x = true) : Rep P S w [] u x := by
 cases x <;> first | exact h | cases hx
end
section
variable {C : Cx} {ops : Array Oper} {Q : Exit → Sta → Prop} {Ok : Sl → Prop} {k : Nat}
variable {fuel : Nat} {listed : Array Bool} {env : Nat → AV} {T : Sl} {n : Nat}
end
section
variable {C : Cx} {o : Oper} {ev : Operand → AV} {T : Sl} {σ : Sta}
/-- A named slice's length. -/
theorem St.len {a : Act} {w : World} (hs : St C σ a w) {r k n : Nat} {u : Value} {e : TypeId} {es : List (List AV)} (hT : σ.T.slots[r]? = some (k, .nm u e es)) (hn : es.length = n) : ∃ A c, u = .slice A n c := by
 subst hn
 obtain ⟨hd, hn, S, vals, bss, hm, he⟩ := hs
 obtain ⟨v, bs, hv, hb, hrep⟩ := hm.slot hT
 obtain ⟨rfl, hr⟩ := hrep.nm_inv
 obtain ⟨us, sz, bss, -, -, -, hown, -⟩ := hr.own_inv
 rcases hown.2 with ⟨h1, h0'⟩ | ⟨g, cap, cur, rfl, -⟩
 · exact ⟨none, 0, by rw [h1, h0']⟩
 exact ⟨_, _, rfl⟩
end
section
variable {C : Cx} {σ : Sta}
end
theorem sz2 : sizeIs Tryz.prog 2 1 := by unfold sizeIs; kernel_rfl
theorem sz3 : sizeIs Tryz.prog 3 1 := by unfold sizeIs; kernel_rfl
theorem ag3 : aggB Tryz.prog 3 = some false := by kernel_rfl
theorem ze3 : zeroIs Tryz.prog 3 (.int .i64 0) 1 8 := ⟨by kernel_rfl, rfl, by simp [Value.cells, Value.oneCell']⟩
theorem sz4 : sizeIs Tryz.prog 4 1 := by unfold sizeIs; kernel_rfl
theorem sz5 : sizeIs Tryz.prog 5 1 := by unfold sizeIs; kernel_rfl
theorem sz9 : sizeIs Tryz.prog 9 1 := by unfold sizeIs; kernel_rfl
theorem ag9 : aggB Tryz.prog 9 = some false := by kernel_rfl
theorem ze9 : zeroIs Tryz.prog 9 (.string ⟨#[]⟩) 1 16 := ⟨by kernel_rfl, rfl, by simp [Value.cells, Value.oneCell']⟩
theorem sz12 : sizeIs Tryz.prog 12 1 := by unfold sizeIs; kernel_rfl
theorem sz13 : sizeIs Tryz.prog 13 2 := by unfold sizeIs; kernel_rfl
theorem sz21 : sizeIs Tryz.prog 21 1 := by unfold sizeIs; kernel_rfl
theorem sz22 : sizeIs Tryz.prog 22 3 := by unfold sizeIs; kernel_rfl
theorem sz23 : sizeIs Tryz.prog 23 3 := by unfold sizeIs; kernel_rfl
theorem ag23 : aggB Tryz.prog 23 = some true := by kernel_rfl
theorem ze23 : zeroIs Tryz.prog 23 (.agg #[.int .i64 0, .int .i64 0, .int .i64 0]) 3 24 := ⟨by kernel_rfl, rfl, by simp [Value.cells, Value.oneCell']⟩
theorem fl23_0 : fieldIs Tryz.prog 23 0 0 3 := ⟨_, _, Tryz.underlying23, rfl, rfl, rfl⟩
theorem fl23_1 : fieldIs Tryz.prog 23 1 1 3 := ⟨_, _, Tryz.underlying23, rfl, rfl, rfl⟩
theorem fl23_2 : fieldIs Tryz.prog 23 2 2 3 := ⟨_, _, Tryz.underlying23, rfl, rfl, rfl⟩
theorem sz24 : sizeIs Tryz.prog 24 4 := by unfold sizeIs; kernel_rfl
theorem sz25 : sizeIs Tryz.prog 25 4 := by unfold sizeIs; kernel_rfl
theorem ag25 : aggB Tryz.prog 25 = some true := by kernel_rfl
theorem ze25 : zeroIs Tryz.prog 25 (.agg #[.string ⟨#[]⟩, .int .i64 0, .string ⟨#[]⟩, .int .i64 0]) 4 48 := ⟨by kernel_rfl, rfl, by simp [Value.cells, Value.oneCell']⟩
theorem fl25_0 : fieldIs Tryz.prog 25 0 0 9 := ⟨_, _, Tryz.underlying25, rfl, rfl, rfl⟩
theorem fl25_1 : fieldIs Tryz.prog 25 1 1 3 := ⟨_, _, Tryz.underlying25, rfl, rfl, rfl⟩
theorem fl25_2 : fieldIs Tryz.prog 25 2 2 9 := ⟨_, _, Tryz.underlying25, rfl, rfl, rfl⟩
theorem fl25_3 : fieldIs Tryz.prog 25 3 3 3 := ⟨_, _, Tryz.underlying25, rfl, rfl, rfl⟩
theorem sz26 : sizeIs Tryz.prog 26 6 := by unfold sizeIs; kernel_rfl
theorem sz27 : sizeIs Tryz.prog 27 6 := by unfold sizeIs; kernel_rfl
theorem sz28 : sizeIs Tryz.prog 28 1 := by unfold sizeIs; kernel_rfl
theorem sz29 : sizeIs Tryz.prog 29 25 := by unfold sizeIs; kernel_rfl
theorem sz30 : sizeIs Tryz.prog 30 25 := by unfold sizeIs; kernel_rfl
theorem ze30 : zeroIs Tryz.prog 30 (.agg #[.int .i64 0, .int .i64 0, .int .i64 0, .string ⟨#[]⟩, .int .i64 0, .string ⟨#[]⟩, .int .i64 0, .string ⟨#[]⟩, .string ⟨#[]⟩, .string ⟨#[]⟩, .int .i64 0, .string ⟨#[]⟩, .int .i64 0, .string ⟨#[]⟩, .string ⟨#[]⟩, .slice none 0 0, .int .i64 0, .int .i64 0, .int .i64 0, .bool false, .string ⟨#[]⟩, .string ⟨#[]⟩, .int .i64 0, .string ⟨#[]⟩, .bool false]) 25 304 := ⟨by kernel_rfl, rfl, by simp [Value.cells, Value.oneCell']⟩
theorem fl30_10 : fieldIs Tryz.prog 30 10 22 3 := ⟨_, _, Tryz.underlying30, rfl, rfl, rfl⟩
theorem sz31 : sizeIs Tryz.prog 31 1 := by unfold sizeIs; kernel_rfl
theorem ag31 : aggB Tryz.prog 31 = some false := by kernel_rfl
theorem ze31 : zeroIs Tryz.prog 31 (.slice none 0 0) 1 24 := ⟨by kernel_rfl, rfl, by simp [Value.cells, Value.oneCell']⟩
theorem sz32 : sizeIs Tryz.prog 32 11 := by unfold sizeIs; kernel_rfl
theorem yH : sizeIs Tryz.prog 33 11 := by unfold sizeIs; kernel_rfl
theorem ag33 : aggB Tryz.prog 33 = some true := by kernel_rfl
theorem ze33 : zeroIs Tryz.prog 33 (.agg #[.int .i64 0, .string ⟨#[]⟩, .int .i64 0, .string ⟨#[]⟩, .int .i64 0, .int .i64 0, .int .i64 0, .int .i64 0, .int .i64 0, .int .i64 0, .slice none 0 0]) 11 120 := ⟨by kernel_rfl, rfl, by simp [Value.cells, Value.oneCell']⟩
theorem fl33_0 : fieldIs Tryz.prog 33 0 0 3 := ⟨_, _, Tryz.underlying33, rfl, rfl, rfl⟩
theorem fl33_1 : fieldIs Tryz.prog 33 1 1 25 := ⟨_, _, Tryz.underlying33, rfl, rfl, rfl⟩
theorem fl33_2 : fieldIs Tryz.prog 33 2 5 3 := ⟨_, _, Tryz.underlying33, rfl, rfl, rfl⟩
theorem fl33_3 : fieldIs Tryz.prog 33 3 6 3 := ⟨_, _, Tryz.underlying33, rfl, rfl, rfl⟩
theorem fl33_4 : fieldIs Tryz.prog 33 4 7 3 := ⟨_, _, Tryz.underlying33, rfl, rfl, rfl⟩
theorem fl33_5 : fieldIs Tryz.prog 33 5 8 3 := ⟨_, _, Tryz.underlying33, rfl, rfl, rfl⟩
theorem fl33_6 : fieldIs Tryz.prog 33 6 9 3 := ⟨_, _, Tryz.underlying33, rfl, rfl, rfl⟩
theorem fl33_7 : fieldIs Tryz.prog 33 7 10 31 := ⟨_, _, Tryz.underlying33, rfl, rfl, rfl⟩
theorem sz34 : sizeIs Tryz.prog 34 5 := by unfold sizeIs; kernel_rfl
theorem yR : sizeIs Tryz.prog 35 5 := by unfold sizeIs; kernel_rfl
theorem ag35 : aggB Tryz.prog 35 = some true := by kernel_rfl
theorem ze35 : zeroIs Tryz.prog 35 (.agg #[.int .i64 0, .int .i64 0, .int .i64 0, .int .i64 0, .int .i64 0]) 5 40 := ⟨by kernel_rfl, rfl, by simp [Value.cells, Value.oneCell']⟩
theorem fl35_0 : fieldIs Tryz.prog 35 0 0 23 := ⟨_, _, Tryz.underlying35, rfl, rfl, rfl⟩
theorem fl35_1 : fieldIs Tryz.prog 35 1 3 3 := ⟨_, _, Tryz.underlying35, rfl, rfl, rfl⟩
theorem fl35_2 : fieldIs Tryz.prog 35 2 4 3 := ⟨_, _, Tryz.underlying35, rfl, rfl, rfl⟩
theorem sz36 : sizeIs Tryz.prog 36 1 := by unfold sizeIs; kernel_rfl
theorem ag36 : aggB Tryz.prog 36 = some false := by kernel_rfl
theorem sz37 : sizeIs Tryz.prog 37 1 := by unfold sizeIs; kernel_rfl
theorem sz40 : sizeIs Tryz.prog 40 1 := by unfold sizeIs; kernel_rfl
theorem sz42 : sizeIs Tryz.prog 42 1 := by unfold sizeIs; kernel_rfl
theorem ag42 : aggB Tryz.prog 42 = some false := by kernel_rfl
theorem ze42 : zeroIs Tryz.prog 42 (.slice none 0 0) 1 24 := ⟨by kernel_rfl, rfl, by simp [Value.cells, Value.oneCell']⟩
theorem sz50 : sizeIs Tryz.prog 50 1 := by unfold sizeIs; kernel_rfl
theorem sz53 : sizeIs Tryz.prog 53 1 := by unfold sizeIs; kernel_rfl
theorem sz55 : sizeIs Tryz.prog 55 1 := by unfold sizeIs; kernel_rfl
theorem sz60 : sizeIs Tryz.prog 60 1 := by unfold sizeIs; kernel_rfl
theorem sz66 : sizeIs Tryz.prog 66 2 := by unfold sizeIs; kernel_rfl
theorem sz67 : sizeIs Tryz.prog 67 2 := by unfold sizeIs; kernel_rfl
theorem ze67 : zeroIs Tryz.prog 67 (.agg #[.slice none 0 0, .int .i64 0]) 2 32 := ⟨by kernel_rfl, rfl, by simp [Value.cells, Value.oneCell']⟩
theorem fl67_0 : fieldIs Tryz.prog 67 0 0 36 := ⟨_, _, Tryz.underlying67, rfl, rfl, rfl⟩
theorem fl67_1 : fieldIs Tryz.prog 67 1 1 3 := ⟨_, _, Tryz.underlying67, rfl, rfl, rfl⟩
theorem sz82 : sizeIs Tryz.prog 82 1 := by unfold sizeIs; kernel_rfl
theorem sz83 : sizeIs Tryz.prog 83 0 := by unfold sizeIs; kernel_rfl
theorem ze83 : zeroIs Tryz.prog 83 (.agg #[]) 0 0 := ⟨by kernel_rfl, rfl, by simp [Value.cells, Value.oneCell']⟩
theorem sz96 : sizeIs Tryz.prog 96 1 := by unfold sizeIs; kernel_rfl
theorem sz97 : sizeIs Tryz.prog 97 1 := by unfold sizeIs; kernel_rfl
theorem sz98 : sizeIs Tryz.prog 98 5 := by unfold sizeIs; kernel_rfl
theorem sz99 : sizeIs Tryz.prog 99 5 := by unfold sizeIs; kernel_rfl
theorem ag99 : aggB Tryz.prog 99 = some true := by kernel_rfl
theorem ze99 : zeroIs Tryz.prog 99 (.agg #[.string ⟨#[]⟩, .int .i64 0, .string ⟨#[]⟩, .int .i64 0, .int .i64 0]) 5 56 := ⟨by kernel_rfl, rfl, by simp [Value.cells, Value.oneCell']⟩
theorem sz101 : sizeIs Tryz.prog 101 1 := by unfold sizeIs; kernel_rfl
theorem sz104 : sizeIs Tryz.prog 104 1 := by unfold sizeIs; kernel_rfl
theorem sz106 : sizeIs Tryz.prog 106 3 := by unfold sizeIs; kernel_rfl
theorem sz111 : sizeIs Tryz.prog 111 1 := by unfold sizeIs; kernel_rfl
theorem sz113 : sizeIs Tryz.prog 113 2 := by unfold sizeIs; kernel_rfl
theorem sz114 : sizeIs Tryz.prog 114 2 := by unfold sizeIs; kernel_rfl
theorem ag114 : aggB Tryz.prog 114 = some true := by kernel_rfl
theorem fl114_0 : fieldIs Tryz.prog 114 0 0 87 := ⟨_, _, Tryz.underlying114, rfl, rfl, rfl⟩
theorem fl114_1 : fieldIs Tryz.prog 114 1 1 108 := ⟨_, _, Tryz.underlying114, rfl, rfl, rfl⟩
theorem sz117 : sizeIs Tryz.prog 117 1 := by unfold sizeIs; kernel_rfl
theorem sz122 : sizeIs Tryz.prog 122 1 := by unfold sizeIs; kernel_rfl
theorem sz123 : sizeIs Tryz.prog 123 1 := by unfold sizeIs; kernel_rfl
theorem sz125 : sizeIs Tryz.prog 125 1 := by unfold sizeIs; kernel_rfl
theorem sz127 : sizeIs Tryz.prog 127 1 := by unfold sizeIs; kernel_rfl
theorem sz129 : sizeIs Tryz.prog 129 1 := by unfold sizeIs; kernel_rfl
theorem sz138 : sizeIs Tryz.prog 138 1 := by unfold sizeIs; kernel_rfl
theorem sz142 : sizeIs Tryz.prog 142 1 := by unfold sizeIs; kernel_rfl
theorem sz146 : sizeIs Tryz.prog 146 1 := by unfold sizeIs; kernel_rfl
theorem sz154 : sizeIs Tryz.prog 154 0 := by unfold sizeIs; kernel_rfl
theorem sz155 : sizeIs Tryz.prog 155 0 := by unfold sizeIs; kernel_rfl
theorem sz160 : sizeIs Tryz.prog 160 1 := by unfold sizeIs; kernel_rfl
theorem sz166 : sizeIs Tryz.prog 166 2 := by unfold sizeIs; kernel_rfl
set_option maxRecDepth 100000
theorem mix : Tryz.prog.follows .mixedOrders = true := by kernel_rfl
theorem en13 : zZ Tryz.prog 13 := fun vs w => by kernel_rfl
theorem en15 : zZ Tryz.prog 15 := fun vs w => by kernel_rfl
theorem en16 : zZ Tryz.prog 16 := fun vs w => by kernel_rfl
theorem en25 : zZ Tryz.prog 25 := fun vs w => by kernel_rfl
theorem en33 : zZ Tryz.prog 33 := fun vs w => by kernel_rfl
theorem en39 : zZ Tryz.prog 39 := fun vs w => by kernel_rfl
theorem en40 : zZ Tryz.prog 40 := fun vs w => by kernel_rfl
theorem en44 : zZ Tryz.prog 44 := fun vs w => by kernel_rfl
theorem en45 : zZ Tryz.prog 45 := fun vs w => by kernel_rfl
theorem en46 : zZ Tryz.prog 46 := fun vs w => by kernel_rfl
theorem en55 : zZ Tryz.prog 55 := fun vs w => by kernel_rfl
theorem en56 : zZ Tryz.prog 56 := fun vs w => by kernel_rfl
theorem en57 : zZ Tryz.prog 57 := fun vs w => by kernel_rfl
theorem en58 : zZ Tryz.prog 58 := fun vs w => by kernel_rfl
theorem en59 : zZ Tryz.prog 59 := fun vs w => by kernel_rfl
theorem en62 : zZ Tryz.prog 62 := fun vs w => by kernel_rfl
theorem en66 : zZ Tryz.prog 66 := fun vs w => by kernel_rfl
theorem en81 : zZ Tryz.prog 81 := fun vs w => by kernel_rfl
theorem en106 : zZ Tryz.prog 106 := fun vs w => by kernel_rfl
theorem en114 : zZ Tryz.prog 114 := fun vs w => by kernel_rfl
theorem en115 : zZ Tryz.prog 115 := fun vs w => by kernel_rfl
theorem en119 : zZ Tryz.prog 119 := fun vs w => by kernel_rfl
theorem en120 : zZ Tryz.prog 120 := fun vs w => by kernel_rfl
theorem en6 : zZ Tryz.prog 6 := fun vs w => by kernel_rfl
theorem en10 : zZ Tryz.prog 10 := fun vs w => by kernel_rfl
theorem en23 : zZ Tryz.prog 23 := fun vs w => by kernel_rfl
theorem en17 : zZ Tryz.prog 17 := fun vs w => by kernel_rfl
theorem en18 : zZ Tryz.prog 18 := fun vs w => by kernel_rfl
theorem en24 : zZ Tryz.prog 24 := fun vs w => by kernel_rfl
theorem en51 : zZ Tryz.prog 51 := fun vs w => by kernel_rfl
theorem en52 : zZ Tryz.prog 52 := fun vs w => by kernel_rfl
theorem en21 : zZ Tryz.prog 21 := fun vs w => by kernel_rfl
theorem en32 : zZ Tryz.prog 32 := fun vs w => by kernel_rfl
theorem en26 : zZ Tryz.prog 26 := fun vs w => by kernel_rfl
theorem en27 : zZ Tryz.prog 27 := fun vs w => by kernel_rfl
theorem en14 : zZ Tryz.prog 14 := fun vs w => by kernel_rfl
theorem en37 : zZ Tryz.prog 37 := fun vs w => by kernel_rfl
theorem en53 : zZ Tryz.prog 53 := fun vs w => by kernel_rfl
theorem en64 : zZ Tryz.prog 64 := fun vs w => by kernel_rfl
theorem en12 : zZ Tryz.prog 12 := fun vs w => by kernel_rfl
theorem en42 : zZ Tryz.prog 42 := fun vs w => by kernel_rfl
theorem en11 : zZ Tryz.prog 11 := fun vs w => by kernel_rfl
theorem en30 : zZ Tryz.prog 30 := fun vs w => by kernel_rfl
theorem en67 : zZ Tryz.prog 67 := fun vs w => by kernel_rfl
theorem en19 : zZ Tryz.prog 19 := fun vs w => by kernel_rfl
theorem en35 : zZ Tryz.prog 35 := fun vs w => by kernel_rfl
theorem en29 : zZ Tryz.prog 29 := fun vs w => by kernel_rfl
theorem en36 : zZ Tryz.prog 36 := fun vs w => by kernel_rfl
theorem en41 : zZ Tryz.prog 41 := fun vs w => by kernel_rfl
theorem en47 : zZ Tryz.prog 47 := fun vs w => by kernel_rfl
theorem en49 : zZ Tryz.prog 49 := fun vs w => by kernel_rfl
theorem en50 : zZ Tryz.prog 50 := fun vs w => by kernel_rfl
theorem en43 : zZ Tryz.prog 43 := fun vs w => by kernel_rfl
theorem en75 : zZ Tryz.prog 75 := fun vs w => by kernel_rfl
theorem en54 : zZ Tryz.prog 54 := fun vs w => by kernel_rfl
theorem en34 : zZ Tryz.prog 34 := fun vs w => by kernel_rfl
theorem en8 : zZ Tryz.prog 8 := fun vs w => by kernel_rfl
theorem en60 : zZ Tryz.prog 60 := fun vs w => by kernel_rfl
theorem en78 : zZ Tryz.prog 78 := fun vs w => by kernel_rfl
theorem en61 : zZ Tryz.prog 61 := fun vs w => by kernel_rfl
theorem en31 : zZ Tryz.prog 31 := fun vs w => by kernel_rfl
theorem en38 : zZ Tryz.prog 38 := fun vs w => by kernel_rfl
theorem en63 : zZ Tryz.prog 63 := fun vs w => by kernel_rfl
theorem en73 : zZ Tryz.prog 73 := fun vs w => by kernel_rfl
theorem en74 : zZ Tryz.prog 74 := fun vs w => by kernel_rfl
theorem en65 : zZ Tryz.prog 65 := fun vs w => by kernel_rfl
theorem en82 : zZ Tryz.prog 82 := fun vs w => by kernel_rfl
theorem en76 : zZ Tryz.prog 76 := fun vs w => by kernel_rfl
theorem en77 : zZ Tryz.prog 77 := fun vs w => by kernel_rfl
theorem en79 : zZ Tryz.prog 79 := fun vs w => by kernel_rfl
theorem en80 : zZ Tryz.prog 80 := fun vs w => by kernel_rfl
theorem en83 : zZ Tryz.prog 83 := fun vs w => by kernel_rfl
theorem en103 : zZ Tryz.prog 103 := fun vs w => by kernel_rfl
theorem en107 : zZ Tryz.prog 107 := fun vs w => by kernel_rfl
theorem en104 : zZ Tryz.prog 104 := fun vs w => by kernel_rfl
theorem en105 : zZ Tryz.prog 105 := fun vs w => by kernel_rfl
theorem en108 : zZ Tryz.prog 108 := fun vs w => by kernel_rfl
theorem en116 : zZ Tryz.prog 116 := fun vs w => by kernel_rfl
theorem en117 : zZ Tryz.prog 117 := fun vs w => by kernel_rfl
theorem en121 : zZ Tryz.prog 121 := fun vs w => by kernel_rfl
theorem en122 : zZ Tryz.prog 122 := fun vs w => by kernel_rfl
theorem en123 : zZ Tryz.prog 123 := fun vs w => by kernel_rfl
set_option maxRecDepth 100000
theorem laidOutP : laidOutB Tryz.prog = true := by kernel_rfl
theorem wide23 : (match Tryz.prog.underlying 23 with | some (.array _ _) | some (.struct _) => true | _ => false) = true := by kernel_rfl
theorem kd23 : Go.Maps.Keyed Tryz.prog 23 := Go.Maps.Keyed.of_law (deep_law_laid laidOutP (m := 2) (by omega) (of_decide_eq_true (by kernel_rfl)) (by kernel_rfl) wide23)
theorem wide99 : (match Tryz.prog.underlying 99 with | some (.array _ _) | some (.struct _) => true | _ => false) = true := by kernel_rfl
theorem kd99 : Go.Maps.Keyed Tryz.prog 99 := Go.Maps.Keyed.of_law (deep_law_laid laidOutP (m := 3) (by omega) (of_decide_eq_true (by kernel_rfl)) (by kernel_rfl) wide99)
theorem kt23 : Tryz.prog.keyType 23 = true := by kernel_rfl
theorem kt99 : Tryz.prog.keyType 99 = true := by kernel_rfl
theorem tsz : ∃ n, Tryz.prog.types.size = n + 5 := ⟨Tryz.prog.types.size - 5, by have : 5 ≤ Tryz.prog.types.size := of_decide_eq_true (by kernel_rfl); omega⟩
theorem cl3 : Tryz.prog.cellsOf 3 = 1 := by kernel_rfl
theorem cl9 : Tryz.prog.cellsOf 9 = 1 := by kernel_rfl
theorem cl25 : Tryz.prog.cellsOf 25 = 4 := by kernel_rfl
theorem cl23 : Tryz.prog.cellsOf 23 = 3 := by kernel_rfl
theorem cl99 : Tryz.prog.cellsOf 99 = 5 := by kernel_rfl
theorem kl_int {d : Nat} {n : Int} (h : (Lit.int .i64 n).wf = true) : Tryz.prog.keyLits (d + 1) 3 [.int .i64 n] = some [.int .i64 n] := by
 unfold Program.keyLits
 rw [Tryz.underlying3]
 simp [h]
theorem kl_str {d : Nat} {s : ByteArray} (h : s.size ≤ maxLen) : Tryz.prog.keyLits (d + 1) 9 [.string s] = some [.string s.data.toList] := by
 unfold Program.keyLits
 rw [Tryz.underlying9]
 simp [h]
theorem kl_23 {d : Nat} {a b c : Int} (h1 : (Lit.int .i64 a).wf = true) (h2 : (Lit.int .i64 b).wf = true) (h3 : (Lit.int .i64 c).wf = true) : Tryz.prog.keyLits (d + 2) 23 [.int .i64 a, .int .i64 b, .int .i64 c] = some [.int .i64 a, .int .i64 b, .int .i64 c] := by
 show Tryz.prog.keyLits ((d + 1) + 1) 23 _ = _
 unfold Program.keyLits
 rw [Tryz.underlying23]
 simp [cl23, cl3, kl_int h1, kl_int h2, kl_int h3]
theorem kl_25 {d : Nat} {s t : ByteArray} {b c : Int} (h1 : s.size ≤ maxLen) (h2 : (Lit.int .i64 b).wf = true) (h3 : t.size ≤ maxLen) (h4 : (Lit.int .i64 c).wf = true) : Tryz.prog.keyLits (d + 2) 25 [.string s, .int .i64 b, .string t, .int .i64 c] = some [.string s.data.toList, .int .i64 b, .string t.data.toList, .int .i64 c] := by
 show Tryz.prog.keyLits ((d + 1) + 1) 25 _ = _
 unfold Program.keyLits
 rw [Tryz.underlying25]
 simp [cl25, cl3, cl9, kl_str h1, kl_int h2, kl_str h3, kl_int h4]
theorem key23 {a b c : Int} (h1 : (Lit.int .i64 a).wf = true) (h2 : (Lit.int .i64 b).wf = true) (h3 : (Lit.int .i64 c).wf = true) : ∃ kl, keyOf Tryz.prog 23 (.agg #[.int .i64 a, .int .i64 b, .int .i64 c]) = some kl := by
 obtain ⟨n, hn⟩ := tsz
 unfold keyOf
 rw [Tryz.underlying23]
 simp [kt23, Value.formed, Tryz.underlying23, cl23, hn, Value.cells, kl_23 h1 h2 h3]
theorem key99 {s t : ByteArray} {b c d : Int} (h1 : s.size ≤ maxLen) (h2 : (Lit.int .i64 b).wf = true) (h3 : t.size ≤ maxLen) (h4 : (Lit.int .i64 c).wf = true) (h5 : (Lit.int .i64 d).wf = true) : ∃ kl, keyOf Tryz.prog 99 (.agg #[.string s, .int .i64 b, .string t, .int .i64 c, .int .i64 d]) = some kl := by
 obtain ⟨n, hn⟩ := tsz
 have e : Tryz.prog.keyLits (n + 6) 99 [.string s, .int .i64 b, .string t, .int .i64 c, .int .i64 d] = some [.string s.data.toList, .int .i64 b, .string t.data.toList, .int .i64 c, .int .i64 d] := by
   show Tryz.prog.keyLits ((n + 5) + 1) 99 _ = _
   unfold Program.keyLits
   rw [Tryz.underlying99]
   simp [cl99, cl25, cl3, kl_25 h1 h2 h3 h4, kl_int h5]
 unfold keyOf
 rw [Tryz.underlying99]
 simp [kt99, Value.formed, Tryz.underlying99, cl99, hn, Value.cells, e]
theorem wf64 {n : Int} (h : -9223372036854775808 ≤ n ∧ n ≤ 9223372036854775807) : (Lit.int .i64 n).wf = true := by
 have e1 : IntKind.i64.min = -9223372036854775808 := by decide
 have e2 : IntKind.i64.max = 9223372036854775807 := by decide
 unfold Lit.wf
 simp [e1, e2]
 omega
theorem zf4 : ∀ w, (zeroValue 4).run Tryz.prog w = .ok (.bool false) w := fun w => by kernel_rfl
set_option maxRecDepth 100000
def inB (n lo hi : Int) : Bool := decide (n ≥ lo) && decide (n ≤ hi)
def upB (c : UInt8) : Bool := decide ((c.toNat : Int) ≥ 65) && decide ((c.toNat : Int) ≤ 90)
def dgB (c : UInt8) : Bool := decide ((c.toNat : Int) ≥ 48) && decide ((c.toNat : Int) ≤ 57)
theorem C105 {n lo hi : Int} : Fn Tryz.prog 105 [] [.v (.int .i64 n), .v (.int .i64 lo), .v (.int .i64 hi)] [.v (.bool (inB n lo hi))] [] := by
 refine Spec.body Tryz.func105 rfl Tryz.ntmps105 (by simp) rfl ?_; intro S0 own0 v0 w0
 refine zA fun K hK => zB ?_
 refine zF (zD rfl rfl) ?_; try simp only [nA, Nat.reduceBEq, Nat.reduceEqDiff, ↓reduceIte, Nat.reduceAdd, Nat.reduceSub]
 refine zE (hK _ ?_); clear hK K; try simp only [nA, Nat.reduceBEq, Nat.reduceEqDiff, ↓reduceIte, Nat.reduceAdd, Nat.reduceSub]
 refine zA fun K hK => zB (yS ?_)
 refine zQ (zC rfl rfl) ?_; simp only [nA, ↓reduceIte]
 refine zQ (zC rfl rfl) ?_; simp only [nA, ↓reduceIte]
 refine zQ (op_geq rfl rfl rfl) ?_; try simp only [nA, Nat.reduceBEq, Nat.reduceEqDiff, ↓reduceIte, Nat.reduceAdd, Nat.reduceSub]
 refine zQ (zC rfl rfl) ?_; simp only [nA]
 refine' yK [_, _, _] [11,12,13] rfl rfl rfl rfl rfl rfl rfl rfl rfl rfl rfl rfl (fun hb => ?_) ?_; rotate_left
 ·
  (try simp only [z7] at hb)
  refine zQ (zC rfl rfl) ?_; simp only [nA, ↓reduceIte]
  refine zQ (zC rfl rfl) ?_; simp only [nA, ↓reduceIte]
  refine zQ (op_leq rfl rfl rfl) ?_; try simp only [nA, Nat.reduceBEq, Nat.reduceEqDiff, ↓reduceIte, Nat.reduceAdd, Nat.reduceSub]
  (refine yL rfl rfl rfl ?_; repeat (first | exact fun _ _ => rfl | refine zU rfl ?_))
 refine zQ (zD rfl rfl) ?_; simp only [nA]
 refine yN (hK _ ?_); clear hK K
 skip
 refine zO ?_; (try simp only [zI, zJ, Nat.reduceEqDiff, ↓reduceIte]); exact zS rfl (.tmp (bl rfl) rfl rfl .nil)
theorem C121 {c : UInt8} : Fn Tryz.prog 121 [] [.v (.int .u8 c.toNat)] [.v (.bool (upB c))] [] := by
 refine Spec.body Tryz.func121 rfl Tryz.ntmps121 (by simp) rfl ?_; intro S0 own0 v0 w0
 refine zA fun K hK => zB ?_
 refine zF (zD rfl rfl) ?_; try simp only [nA, Nat.reduceBEq, Nat.reduceEqDiff, ↓reduceIte, Nat.reduceAdd, Nat.reduceSub]
 refine zE (hK _ ?_); clear hK K; try simp only [nA, Nat.reduceBEq, Nat.reduceEqDiff, ↓reduceIte, Nat.reduceAdd, Nat.reduceSub]
 refine zA fun K hK => zB (yS ?_)
 refine zQ (zC rfl rfl) ?_; simp only [nA, ↓reduceIte]
 refine zQ (op_geq rfl rfl rfl) ?_; try simp only [nA, Nat.reduceBEq, Nat.reduceEqDiff, ↓reduceIte, Nat.reduceAdd, Nat.reduceSub]
 refine zQ (zC rfl rfl) ?_; simp only [nA]
 refine' yK [_, _] [6,7] rfl rfl rfl rfl rfl rfl rfl rfl rfl rfl rfl rfl (fun hb => ?_) ?_; rotate_left
 ·
  (try simp only [z7] at hb)
  refine zQ (zC rfl rfl) ?_; simp only [nA, ↓reduceIte]
  refine zQ (op_leq rfl rfl rfl) ?_; try simp only [nA, Nat.reduceBEq, Nat.reduceEqDiff, ↓reduceIte, Nat.reduceAdd, Nat.reduceSub]
  (refine yL rfl rfl rfl ?_; repeat (first | exact fun _ _ => rfl | refine zU rfl ?_))
 refine zQ (zD rfl rfl) ?_; simp only [nA]
 refine yN (hK _ ?_); clear hK K
 skip
 refine zO ?_; (try simp only [zI, zJ, Nat.reduceEqDiff, ↓reduceIte]); exact zS rfl (.tmp (bl rfl) rfl rfl .nil)
theorem C122 {c : UInt8} : Fn Tryz.prog 122 [] [.v (.int .u8 c.toNat)] [.v (.bool (dgB c))] [] := by
 refine Spec.body Tryz.func122 rfl Tryz.ntmps122 (by simp) rfl ?_; intro S0 own0 v0 w0
 refine zA fun K hK => zB ?_
 refine zF (zD rfl rfl) ?_; try simp only [nA, Nat.reduceBEq, Nat.reduceEqDiff, ↓reduceIte, Nat.reduceAdd, Nat.reduceSub]
 refine zE (hK _ ?_); clear hK K; try simp only [nA, Nat.reduceBEq, Nat.reduceEqDiff, ↓reduceIte, Nat.reduceAdd, Nat.reduceSub]
 refine zA fun K hK => zB (yS ?_)
 refine zQ (zC rfl rfl) ?_; simp only [nA, ↓reduceIte]
 refine zQ (op_geq rfl rfl rfl) ?_; try simp only [nA, Nat.reduceBEq, Nat.reduceEqDiff, ↓reduceIte, Nat.reduceAdd, Nat.reduceSub]
 refine zQ (zC rfl rfl) ?_; simp only [nA]
 refine' yK [_, _] [6,7] rfl rfl rfl rfl rfl rfl rfl rfl rfl rfl rfl rfl (fun hb => ?_) ?_; rotate_left
 ·
  (try simp only [z7] at hb)
  refine zQ (zC rfl rfl) ?_; simp only [nA, ↓reduceIte]
  refine zQ (op_leq rfl rfl rfl) ?_; try simp only [nA, Nat.reduceBEq, Nat.reduceEqDiff, ↓reduceIte, Nat.reduceAdd, Nat.reduceSub]
  (refine yL rfl rfl rfl ?_; repeat (first | exact fun _ _ => rfl | refine zU rfl ?_))
 refine zQ (zD rfl rfl) ?_; simp only [nA]
 refine yN (hK _ ?_); clear hK K
 skip
 refine zO ?_; (try simp only [zI, zJ, Nat.reduceEqDiff, ↓reduceIte]); exact zS rfl (.tmp (bl rfl) rfl rfl .nil)
set_option maxRecDepth 100000
def chr (s : ByteArray) (i : Nat) : UInt8 := s.data.toList.getD i 0
theorem size_len (s : ByteArray) : s.data.toList.length = s.size := by show s.data.toList.length = s.data.size; simp
theorem get_chr {s : ByteArray} {i : Nat} (h : i < s.size) : s.data.toList[i]? = some (chr s i) := by
 unfold chr
 rw [List.getD_eq_getElem?_getD, List.getElem?_eq_getElem (by rw [size_len]; exact h)]
 rfl
theorem take_all {s : ByteArray} {f : UInt8 → Bool} {i : Nat} (h : i < s.size) : (s.data.toList.take (i + 1)).all f = ((s.data.toList.take i).all f && f (chr s i)) := by
 have h2 := get_chr h
 rw [List.take_add_one, h2]
 simp
theorem all_take {s : ByteArray} {f : UInt8 → Bool} {i : Nat} (h : ¬ i < s.size) : (s.data.toList.take i).all f = s.data.toList.all f := by
 rw [List.take_of_length_le (by rw [size_len]; omega)]
theorem all_no {s : ByteArray} {f : UInt8 → Bool} {i : Nat} (h : i < s.size) (hf : f (chr s i) = false) : s.data.toList.all f = false := by
 rw [List.all_eq_false]
 exact ⟨chr s i, List.mem_of_getElem? (get_chr h), by rw [hf]; simp⟩
theorem C123 {s : ByteArray} (hs : s.size ≤ 1000000) : Fn Tryz.prog 123 [] [.v (.string s), .v (.func (.func 121) #[] #[])] [.v (.bool (s.data.toList.all upB))] [] := by
 refine Spec.body Tryz.func123 rfl Tryz.ntmps123 (by simp) rfl ?_; intro S0 own0 v0 w0
 refine zA fun K hK => zB ?_
 refine zF (zD rfl rfl) ?_; try simp only [nA, Nat.reduceBEq, Nat.reduceEqDiff, ↓reduceIte, Nat.reduceAdd, Nat.reduceSub]
 refine zE (hK _ ?_); clear hK K; try simp only [nA, Nat.reduceBEq, Nat.reduceEqDiff, ↓reduceIte, Nat.reduceAdd, Nat.reduceSub]
 refine zA fun K hK => ?_
 refine zA fun K hK => zB ?_
 refine zF (zC rfl rfl) ?_; simp only [nA, ↓reduceIte]
 (refine zF (op_len_str rfl rfl Tryz.underlying9) ?_); try simp only [nA, Nat.reduceBEq, Nat.reduceEqDiff, ↓reduceIte, Nat.reduceAdd, Nat.reduceSub]
 refine zF (zC rfl rfl) ?_; try simp only [nA, Nat.reduceBEq, Nat.reduceEqDiff, ↓reduceIte, Nat.reduceAdd, Nat.reduceSub]
 refine zE (hK _ ?_); clear hK K
 refine zN ?_
 refine yC (fun i => [(0, .v (.string s)), (1, .v (.func (.func 121) #[] #[])), (7, .v (.int .i64 s.size)), (8, .v (.int .i64 (i : Nat)))]) (fun _ => ⟨[], 1⟩) (fun i => i ≤ s.size ∧ (s.data.toList.take i).all upB = true) (fun i => s.size - i) 0 (by simp) ⟨rfl, rfl, rfl, rfl, trivial⟩ rfl ?_; intro i ρ hi; simp only [updL]
 refine zA fun K hK => zB ?_
 refine zF (yP rfl rfl rfl) ?_; try simp only [nA, Nat.reduceBEq, Nat.reduceEqDiff, ↓reduceIte, Nat.reduceAdd, Nat.reduceSub]
 refine zE (hK _ ?_); clear hK K
 refine zA fun K hK => ?_
 refine zL rfl rfl rfl (fun hc => ?_) (fun hc => ?_)
 ·
  (try simp only [z7] at hc); have hc1 := hc
  refine zM ?_
  refine hK _ ?_; clear hK K
  refine zA fun K hK => zN ?_
  refine zA fun K hK => zB ?_
  refine zF (zC rfl rfl) ?_; simp only [nA, ↓reduceIte]
  refine zF (zD rfl rfl) ?_; simp only [nA]
  refine zE (hK _ ?_); clear hK K
  refine zA fun K hK => zB ?_
  refine zF (zC rfl rfl) ?_; simp only [nA, ↓reduceIte]
  refine zF (zC rfl rfl) ?_; simp only [nA, ↓reduceIte]
  refine zF (zC rfl rfl) ?_; simp only [nA, ↓reduceIte]
  refine zF (op_ix_str _ rfl rfl rfl Tryz.underlying9 rfl (get_chr (by omega))) ?_; try simp only [nA, Nat.reduceBEq, Nat.reduceEqDiff, ↓reduceIte, Nat.reduceAdd, Nat.reduceSub]
  refine yD (OpQ.j (op_valQ (b := true) rfl rfl en121 C121 (RL.cons (by exact View.same rfl) (RL.nil)) rfl)) ?_; try simp only [nA, Nat.reduceBEq, Nat.reduceEqDiff, ↓reduceIte, Nat.reduceAdd, Nat.reduceSub]
  refine zF (op_not rfl rfl rfl) ?_; try simp only [nA, Nat.reduceBEq, Nat.reduceEqDiff, ↓reduceIte, Nat.reduceAdd, Nat.reduceSub]
  refine zE (hK _ ?_); clear hK K
  refine zL rfl rfl rfl (fun hc => ?_) (fun hc => ?_)
  ·
   (try simp only [z7] at hc); have hc2 := hc
   refine zA fun K hK => zB ?_
   refine zF (zD rfl rfl) ?_; try simp only [nA, Nat.reduceBEq, Nat.reduceEqDiff, ↓reduceIte, Nat.reduceAdd, Nat.reduceSub]
   refine zE (hK _ ?_); clear hK K
   skip
   refine zO ?_; (try simp only [zI, zJ, Nat.reduceEqDiff, ↓reduceIte]); rw [all_no (i := i) (by omega) hc]; exact zS rfl (.tmp (bl rfl) rfl rfl .nil)
  (try simp only [z7] at hc); have hc2 := hc
  refine zM ?_
  (try simp only [zI, zJ, Nat.reduceEqDiff, ↓reduceIte])
  refine hK _ ?_; clear hK K
  refine zB ?_
  (refine zF (zR rfl rfl rfl (by omega)) ?_); try simp only [nA, Nat.reduceBEq, Nat.reduceEqDiff, ↓reduceIte, Nat.reduceAdd, Nat.reduceSub]
  refine zF (zC rfl rfl) ?_; simp only [nA]
  skip
  refine zE ?_
  refine ⟨i + 1, ⟨by omega, by rw [take_all (by omega), hi.2]; simpa using hc⟩, by omega, ⟨rfl, rfl, rfl, rfl, trivial⟩, rfl, rfl⟩
 (try simp only [z7] at hc); have hc1 := hc
 refine yE ?_; try simp only [zI, zJ, Nat.reduceEqDiff, ↓reduceIte]
 clear hK K
 refine hK _ ?_; clear hK K
 refine zA fun K hK => zB ?_
 refine zF (zD rfl rfl) ?_; try simp only [nA, Nat.reduceBEq, Nat.reduceEqDiff, ↓reduceIte, Nat.reduceAdd, Nat.reduceSub]
 refine zE (hK _ ?_); clear hK K
 skip
 refine zO ?_; (try simp only [zI, zJ, Nat.reduceEqDiff, ↓reduceIte]); rw [← all_take (i := i) (by omega), hi.2]; exact zS rfl (.tmp (bl rfl) rfl rfl .nil)
set_option maxRecDepth 100000
def lettersB (s : ByteArray) (lo hi : Int) : Bool := (decide ((s.size : Int) ≥ lo) && decide ((s.size : Int) ≤ hi)) && s.data.toList.all upB
theorem C117 {s : ByteArray} {lo hi : Int} (h : hi ≤ 1000000) : Fn Tryz.prog 117 [] [.v (.string s), .v (.int .i64 lo), .v (.int .i64 hi)] [.v (.bool (lettersB s lo hi))] [] := by
 refine Spec.body Tryz.func117 rfl Tryz.ntmps117 (by simp) rfl ?_; intro S0 own0 v0 w0
 refine zA fun K hK => zB ?_
 refine zF (zD rfl rfl) ?_
 refine zE (hK _ ?_); clear hK K; try simp only [nA, Nat.reduceBEq, Nat.reduceEqDiff, ↓reduceIte, Nat.reduceAdd, Nat.reduceSub]
 refine zA fun K hK => zB (yS ?_)
 refine zQ (zC rfl rfl) ?_
 refine zQ (op_len_str rfl rfl Tryz.underlying9) ?_
 refine zQ (zC rfl rfl) ?_
 refine zQ (op_geq rfl rfl rfl) ?_
 refine zQ (zC rfl rfl) ?_
 refine' yK [_, _, _, _] [12,13,14,15] rfl rfl rfl rfl rfl rfl rfl rfl rfl rfl rfl rfl (fun hb => ?_) ?_; rotate_left
 ·
  (try simp only [z7] at hb)
  refine zQ (zC rfl rfl) ?_
  refine zQ (op_len_str rfl rfl Tryz.underlying9) ?_
  refine zQ (zC rfl rfl) ?_
  refine zQ (op_leq rfl rfl rfl) ?_
  (refine yL rfl rfl rfl ?_; repeat (first | exact fun _ _ => rfl | refine zU rfl ?_))
 simp only [nA, ↓reduceIte]
 refine zQ (zC rfl rfl) ?_
 refine' yK [_, _] [18,19] rfl rfl rfl rfl rfl rfl rfl rfl rfl rfl rfl rfl (fun hb => ?_) ?_; rotate_left
 ·
  (try simp only [z7] at hb)
  refine zQ (zC rfl rfl) ?_
  refine aqQ (zT (b := true) rfl en123 (C123 (s := s) (by omega)) (RL.cons (by exact View.same rfl) (RL.cons (by exact View.same rfl) (RL.nil))) rfl) ?_; simp only [nA, Nat.reduceEqDiff, ↓reduceIte]
  (refine yL rfl rfl rfl ?_; repeat (first | exact fun _ _ => rfl | refine zU rfl ?_))
 simp only [nA]
 refine zQ (zD rfl rfl) ?_
 refine yN (hK _ ?_); clear hK K; simp only [nA]
 skip
 refine zO ?_; (try simp only [zI, zJ, Nat.reduceEqDiff, ↓reduceIte]); exact zS rfl (.tmp (bl rfl) rfl rfl .nil)
def carB (s : ByteArray) : Bool := decide (s.size = 2) && (s.data.toList.all (fun c => upB c || dgB c) && s.data.toList.any upB)
def cntB (s : ByteArray) (i : Nat) : Int := ((s.data.toList.take i).countP upB : Nat)
theorem cnt_yes {s : ByteArray} {i : Nat} (h : i < s.size) (hf : upB (chr s i) = true) : cntB s (i + 1) = cntB s i + 1 := by
 have h2 := get_chr h
 unfold cntB
 rw [List.take_add_one, h2]
 simp [hf]
theorem cnt_no {s : ByteArray} {i : Nat} (h : i < s.size) (hf : upB (chr s i) = false) : cntB s (i + 1) = cntB s i := by
 have h2 := get_chr h
 unfold cntB
 rw [List.take_add_one, h2]
 simp [hf]
theorem cnt_le {s : ByteArray} {i : Nat} (h : i ≤ s.size) : 0 ≤ cntB s i ∧ cntB s i ≤ i := by
 unfold cntB
 have := List.countP_le_length (p := upB) (l := s.data.toList.take i)
 have h3 : (s.data.toList.take i).length ≤ i := by simp; omega
 omega
theorem cnt_end {s : ByteArray} {i : Nat} (h : ¬ i < s.size) : decide (cntB s i > 0) = s.data.toList.any upB := by
 unfold cntB
 rw [List.take_of_length_le (by rw [size_len]; omega), Bool.eq_iff_iff, decide_eq_true_eq, List.any_eq_true]
 have := List.countP_pos_iff (p := upB) (l := s.data.toList)
 constructor
 · intro h; exact this.1 (by omega)
 intro h; have := this.2 h; omega
theorem C116 {s : ByteArray} : Fn Tryz.prog 116 [] [.v (.string s)] [.v (.bool (carB s))] [] := by
 refine Spec.body Tryz.func116 rfl Tryz.ntmps116 (by simp) rfl ?_; intro S0 own0 v0 w0
 refine zA fun K hK => zB ?_
 refine zF (zD rfl rfl) ?_
 refine zE (hK _ ?_); clear hK K; try simp only [nA, Nat.reduceBEq, Nat.reduceEqDiff, ↓reduceIte, Nat.reduceAdd, Nat.reduceSub]
 refine zA fun K hK => ?_
 refine zA fun K hK => zB ?_
 refine zF (zC rfl rfl) ?_
 refine zF (op_len_str rfl rfl Tryz.underlying9) ?_
 refine zF (op_neq rfl rfl rfl) ?_
 refine zE (hK _ ?_); clear hK K; simp only [nA, ↓reduceIte]
 refine zL rfl rfl rfl (fun hc => ?_) (fun hc => ?_)
 ·
  (try simp only [z7] at hc); have hc1 := hc
  refine zA fun K hK => zB ?_
  refine zF (zD rfl rfl) ?_
  refine zE (hK _ ?_); clear hK K; try simp only [nA, Nat.reduceBEq, Nat.reduceEqDiff, ↓reduceIte, Nat.reduceAdd, Nat.reduceSub]
  skip
  refine zO ?_; (try simp only [zI, zJ, Nat.reduceEqDiff, ↓reduceIte]); rw [show carB s = false by unfold carB; rw [show decide (s.size = 2) = false by simp; omega]; rfl]; exact zS rfl (.tmp (bl rfl) rfl rfl .nil)
 (try simp only [z7] at hc); have hc1 := hc
 refine zM ?_
 refine hK _ ?_; clear hK K
 refine zA fun K hK => zB ?_
 refine zF (zD rfl rfl) ?_
 refine zE (hK _ ?_); clear hK K; try simp only [nA, Nat.reduceBEq, Nat.reduceEqDiff, ↓reduceIte, Nat.reduceAdd, Nat.reduceSub]
 refine zA fun K hK => ?_
 refine zA fun K hK => zB ?_
 refine zF (zC rfl rfl) ?_
 refine zF (op_len_str rfl rfl Tryz.underlying9) ?_
 refine zF (zC rfl rfl) ?_
 refine zE (hK _ ?_); clear hK K; simp only [nA, ↓reduceIte]
 refine zN ?_
 refine yC (fun i => [(0, .v (.string s)), (3, .v (.int .i64 (cntB s i))), (9, .v (.int .i64 s.size)), (10, .v (.int .i64 (i : Nat)))]) (fun _ => ⟨[], 1⟩) (fun i => i ≤ s.size ∧ (s.data.toList.take i).all (fun c => upB c || dgB c) = true) (fun i => s.size - i) 0 (by simp) ⟨rfl, rfl, rfl, rfl, trivial⟩ rfl ?_; intro i ρ hi; simp only [updL]; have hcl := cnt_le (s := s) hi.1
 refine zA fun K hK => zB ?_
 refine zF (yP rfl rfl rfl) ?_
 refine zE (hK _ ?_); clear hK K; try simp only [nA, Nat.reduceBEq, Nat.reduceEqDiff, ↓reduceIte, Nat.reduceAdd, Nat.reduceSub]
 refine zA fun K hK => ?_
 refine zL rfl rfl rfl (fun hc => ?_) (fun hc => ?_)
 ·
  (try simp only [z7] at hc); have hc2 := hc
  refine zM ?_
  refine hK _ ?_; clear hK K
  refine zA fun K hK => zN ?_
  refine zA fun K hK => zB ?_
  refine zF (zC rfl rfl) ?_
  refine zF (zD rfl rfl) ?_
  refine zE (hK _ ?_); clear hK K; simp only [nA, ↓reduceIte]
  refine zN ?_
  refine zA fun K hK => zB ?_
  refine zF (zC rfl rfl) ?_
  refine zF (zC rfl rfl) ?_
  refine zF (op_ix_str _ rfl rfl rfl Tryz.underlying9 rfl (get_chr (by omega))) ?_
  refine yD (OpQ.j (zT (b := true) rfl en121 (C121) (RL.cons (by exact View.same rfl) (RL.nil)) rfl)) ?_; simp only [nA, ↓reduceIte]
  refine zF (zD rfl rfl) ?_
  refine zE (hK _ ?_); clear hK K; simp only [nA]
  refine zL rfl rfl rfl (fun hc => ?_) (fun hc => ?_)
  ·
   (try simp only [z7] at hc); have hc3 := hc
   refine zB ?_
   refine zF (zC rfl rfl) ?_
   refine zF (zR rfl rfl rfl (by omega)) ?_
   refine zF (zD rfl rfl) ?_
   refine zE ?_
   (try simp only [zI, zJ, Nat.reduceEqDiff, ↓reduceIte])
   (try simp only [zI, zJ, Nat.reduceEqDiff, ↓reduceIte])
   refine hK _ ?_; clear hK K; simp only [nA, ↓reduceIte]
   refine zB ?_
   refine zF (zR rfl rfl rfl (by omega)) ?_
   refine zF (zC rfl rfl) ?_
   skip
   refine zE ?_
   refine ⟨i + 1, ⟨by omega, by rw [take_all (by omega), hi.2]; simp [hc]⟩, by omega, ⟨rfl, (by rw [cnt_yes (by omega) hc]; rfl), rfl, rfl, trivial⟩, rfl, rfl⟩
  (try simp only [z7] at hc); have hc3 := hc
  refine zA fun K hK => zB ?_
  refine zF (zC rfl rfl) ?_
  refine zF (zC rfl rfl) ?_
  refine zF (op_ix_str _ rfl rfl rfl Tryz.underlying9 rfl (get_chr (by omega))) ?_
  refine yD (OpQ.j (zT (b := true) rfl en122 (C122) (RL.cons (by exact View.same rfl) (RL.nil)) rfl)) ?_; simp only [nA, ↓reduceIte]
  refine zF (op_not rfl rfl rfl) ?_
  refine zF (zD rfl rfl) ?_
  refine zE (hK _ ?_); clear hK K; simp only [nA]
  refine zL rfl rfl rfl (fun hc => ?_) (fun hc => ?_)
  ·
   (try simp only [z7] at hc); have hc4 := hc
   refine zA fun K hK => zB ?_
   refine zF (zD rfl rfl) ?_
   refine zE (hK _ ?_); clear hK K; try simp only [nA, Nat.reduceBEq, Nat.reduceEqDiff, ↓reduceIte, Nat.reduceAdd, Nat.reduceSub]
   skip
   refine zO ?_; (try simp only [zI, zJ, Nat.reduceEqDiff, ↓reduceIte]); rw [show carB s = false by unfold carB; rw [all_no (i := i) (by omega) (by rw [hc3, hc]; rfl)]; simp]; exact zS rfl (.tmp (bl rfl) rfl rfl .nil)
  (try simp only [z7] at hc); have hc4 := hc
  refine zM ?_
  (try simp only [zI, zJ, Nat.reduceEqDiff, ↓reduceIte])
  (try simp only [zI, zJ, Nat.reduceEqDiff, ↓reduceIte])
  refine hK _ ?_; clear hK K
  refine zB ?_
  refine zF (zR rfl rfl rfl (by omega)) ?_
  refine zF (zC rfl rfl) ?_
  skip
  refine zE ?_
  refine ⟨i + 1, ⟨by omega, by rw [take_all (by omega), hi.2]; simp [hc]⟩, by omega, ⟨rfl, (by rw [cnt_no (by omega) hc3]; rfl), rfl, rfl, trivial⟩, rfl, rfl⟩
 (try simp only [z7] at hc); have hc2 := hc
 refine yE ?_; try simp only [zI, zJ, Nat.reduceEqDiff, ↓reduceIte]
 clear hK K
 refine hK _ ?_; clear hK K
 refine zA fun K hK => zB ?_
 refine zF (zC rfl rfl) ?_
 refine zF (op_gtr rfl rfl rfl) ?_
 refine zF (zD rfl rfl) ?_
 refine zE (hK _ ?_); clear hK K; simp only [nA, ↓reduceIte]
 skip
 refine zO ?_; (try simp only [zI, zJ, Nat.reduceEqDiff, ↓reduceIte]); rw [show carB s = decide (cntB s i > 0) by unfold carB; rw [cnt_end (by omega), show decide (s.size = 2) = true by simp; omega, ← all_take (i := i) (by omega), hi.2]; rfl]; exact zS rfl (.tmp (bl rfl) rfl rfl .nil)
theorem C103 {n : Int} : Fn Tryz.prog 103 [] [.v (.int .i64 n)] [.v (.bool false)] [] := by
 refine Spec.body Tryz.func103 rfl Tryz.ntmps103 (by simp) rfl ?_; intro S0 own0 v0 w0
 refine zA fun K hK => zB ?_
 refine zF (zD rfl rfl) ?_
 refine zE (hK _ ?_); clear hK K; try simp only [nA, Nat.reduceBEq, Nat.reduceEqDiff, ↓reduceIte, Nat.reduceAdd, Nat.reduceSub]
 refine zA fun K hK => zB ?_
 refine zF (zC rfl rfl) ?_
 refine zF (zC rfl rfl) ?_
 refine zF (op_neq rfl rfl rfl) ?_
 refine zF (zD rfl rfl) ?_
 refine zE (hK _ ?_); clear hK K; simp only [nA, ↓reduceIte]
 skip
 refine zO ?_; (try simp only [zI, zJ, Nat.reduceEqDiff, ↓reduceIte]); exact zS rfl (.tmp (bl rfl) rfl rfl .nil)
def cmpI (a b : Int) : Int := if a < b then -1 else if a > b then 1 else 0
theorem C74 {a b : Int} : Fn Tryz.prog 74 [] [.v (.int .i64 a), .v (.int .i64 b)] [.v (.int .i64 (cmpI a b))] [] := by
 refine Spec.body Tryz.func74 rfl Tryz.ntmps74 (by simp) rfl ?_; intro S0 own0 v0 w0
 refine zA fun K hK => zB ?_
 refine zF (zD rfl rfl) ?_
 refine zE (hK _ ?_); clear hK K; try simp only [nA, Nat.reduceBEq, Nat.reduceEqDiff, ↓reduceIte, Nat.reduceAdd, Nat.reduceSub]
 refine zA fun K hK => zB ?_
 refine zF (zC rfl rfl) ?_
 refine yD (OpQ.j (zT (b := true) rfl en103 (C103) (RL.cons (by exact View.same rfl) (RL.nil)) rfl)) ?_; simp only [nA, ↓reduceIte]
 refine zF (zD rfl rfl) ?_
 refine zE (hK _ ?_); clear hK K; simp only [nA]
 refine zA fun K hK => zB ?_
 refine zF (zC rfl rfl) ?_
 refine yD (OpQ.j (zT (b := true) rfl en103 (C103) (RL.cons (by exact View.same rfl) (RL.nil)) rfl)) ?_; simp only [nA, ↓reduceIte]
 refine zF (zD rfl rfl) ?_
 refine zE (hK _ ?_); clear hK K; simp only [nA]
 refine zA fun K hK => ?_
 refine zA fun K hK => zB ?_
 refine zF (zC rfl rfl) ?_
 refine zE (hK _ ?_); clear hK K; simp only [nA, ↓reduceIte]
 refine zL rfl rfl rfl (fun hc => ?_) (fun hc => ?_)
 · (cases hc; done)
 (try simp only [z7] at hc); have hc1 := hc
 refine zM ?_
 refine hK _ ?_; clear hK K
 refine zA fun K hK => ?_
 refine zA fun K hK => zB ?_
 refine zF (zC rfl rfl) ?_
 refine zE (hK _ ?_); clear hK K; simp only [nA, ↓reduceIte]
 refine zL rfl rfl rfl (fun hc => ?_) (fun hc => ?_)
 · (cases hc; done)
 (try simp only [z7] at hc); have hc2 := hc
 refine zM ?_
 refine hK _ ?_; clear hK K
 refine zA fun K hK => ?_
 refine zA fun K hK => zB ?_
 refine zF (zC rfl rfl) ?_
 refine zF (zC rfl rfl) ?_
 refine zF (yP rfl rfl rfl) ?_
 refine zE (hK _ ?_); clear hK K; simp only [nA, ↓reduceIte]
 refine zL rfl rfl rfl (fun hc => ?_) (fun hc => ?_)
 ·
  (try simp only [z7] at hc); have hc3 := hc
  refine zA fun K hK => zB ?_
  refine zF (zD rfl rfl) ?_
  refine zE (hK _ ?_); clear hK K; try simp only [nA, Nat.reduceBEq, Nat.reduceEqDiff, ↓reduceIte, Nat.reduceAdd, Nat.reduceSub]
  skip
  refine zO ?_; (try simp only [zI, zJ, Nat.reduceEqDiff, ↓reduceIte]); rw [show cmpI a b = -1 by unfold cmpI; rw [if_pos (by omega)]]; exact zS rfl (.tmp (bl rfl) rfl rfl .nil)
 (try simp only [z7] at hc); have hc3 := hc
 refine zM ?_
 refine hK _ ?_; clear hK K
 refine zA fun K hK => ?_
 refine zA fun K hK => zB ?_
 refine zF (zC rfl rfl) ?_
 refine zF (zC rfl rfl) ?_
 refine zF (op_gtr rfl rfl rfl) ?_
 refine zE (hK _ ?_); clear hK K; simp only [nA, ↓reduceIte]
 refine zL rfl rfl rfl (fun hc => ?_) (fun hc => ?_)
 ·
  (try simp only [z7] at hc); have hc4 := hc
  refine zA fun K hK => zB ?_
  refine zF (zD rfl rfl) ?_
  refine zE (hK _ ?_); clear hK K; try simp only [nA, Nat.reduceBEq, Nat.reduceEqDiff, ↓reduceIte, Nat.reduceAdd, Nat.reduceSub]
  skip
  refine zO ?_; (try simp only [zI, zJ, Nat.reduceEqDiff, ↓reduceIte]); rw [show cmpI a b = 1 by unfold cmpI; rw [if_neg (by omega), if_pos (by omega)]]; exact zS rfl (.tmp (bl rfl) rfl rfl .nil)
 (try simp only [z7] at hc); have hc4 := hc
 refine zM ?_
 refine hK _ ?_; clear hK K
 refine zA fun K hK => zB ?_
 refine zF (zD rfl rfl) ?_
 refine zE (hK _ ?_); clear hK K; try simp only [nA, Nat.reduceBEq, Nat.reduceEqDiff, ↓reduceIte, Nat.reduceAdd, Nat.reduceSub]
 skip
 refine zO ?_; (try simp only [zI, zJ, Nat.reduceEqDiff, ↓reduceIte]); rw [show cmpI a b = 0 by unfold cmpI; rw [if_neg (by omega), if_neg (by omega)]]; exact zS rfl (.tmp (bl rfl) rfl rfl .nil)
set_option maxRecDepth 100000
structure Plate where
 lead : Int
 airline : Int
 serial : Int
 deriving DecidableEq
structure Flight where
 carrier : ByteArray
 number : Int
 suffix : ByteArray
 day : Int
structure Piece where
 plate : Plate
 weight : Int
 category : Int
structure Container where
 number : Int
 flight : Flight
 categories : Int
 limit : Int
 most : Int
 position : Int
 arm : Int
 pieces : List Piece
abbrev Plate.av (p : Plate) : List AV := [.v (.int .i64 p.lead), .v (.int .i64 p.airline), .v (.int .i64 p.serial)]
abbrev Flight.av (f : Flight) : List AV := [.v (.string f.carrier), .v (.int .i64 f.number), .v (.string f.suffix), .v (.int .i64 f.day)]
abbrev Piece.av (p : Piece) : List AV := [.v (.int .i64 p.plate.lead), .v (.int .i64 p.plate.airline), .v (.int .i64 p.plate.serial), .v (.int .i64 p.weight), .v (.int .i64 p.category)]
abbrev Container.av (c : Container) : List AV := [.v (.int .i64 c.number), .v (.string c.flight.carrier), .v (.int .i64 c.flight.number), .v (.string c.flight.suffix), .v (.int .i64 c.flight.day), .v (.int .i64 c.categories), .v (.int .i64 c.limit), .v (.int .i64 c.most), .v (.int .i64 c.position), .v (.int .i64 c.arm), .ro (c.pieces.map Piece.av)]
def flB (f : Flight) : Bool := ((((carB f.carrier && decide (f.number ≥ 1)) && decide (f.number ≤ 9999)) && lettersB f.suffix 0 1) && decide (f.day ≥ 0)) && decide (f.day ≤ 99)
def plB (p : Plate) : Bool := ((((decide (p.lead ≥ 0) && decide (p.lead ≤ 9)) && decide (p.airline ≥ 1)) && decide (p.airline ≤ 999)) && decide (p.serial ≥ 0)) && decide (p.serial < 1000000)
theorem C108 {f : Flight} : Fn Tryz.prog 108 [] [.agg f.av] [.v (.bool (flB f))] [] := by
 refine Spec.body Tryz.func108 rfl Tryz.ntmps108 (by simp) rfl ?_; intro S0 own0 v0 w0
 refine zA fun K hK => zB ?_
 refine yD (yO rfl rfl rfl sz25 rfl) ?_; simp only [nA, Nat.reduceBEq, Nat.reduceEqDiff, ↓reduceIte]
 refine zF (zD rfl rfl) ?_
 refine zE (hK _ ?_); clear hK K; try simp only [nA, Nat.reduceBEq, Nat.reduceEqDiff, ↓reduceIte, Nat.reduceAdd, Nat.reduceSub]
 refine zA fun K hK => zB (yS ?_)
 refine zQ (zH rfl rfl rfl fl25_0 (by exact sz9) (by decide) rfl) ?_
 refine aqR (zG rfl rfl rfl rfl ag9 rfl rfl) ?_
 refine aqQ (zT (b := true) rfl en116 (C116) (RL.cons (by exact View.same rfl) (RL.nil)) rfl) ?_; try simp only [nA, Nat.reduceBEq, Nat.reduceEqDiff, ↓reduceIte, Nat.reduceAdd, Nat.reduceSub]
 refine zQ (zC rfl rfl) ?_
 refine' yK [_, _, _] [7,8,9] rfl rfl rfl rfl rfl rfl rfl rfl rfl rfl rfl rfl (fun hb => ?_) ?_; rotate_left
 ·
  (try simp only [z7] at hb)
  refine zQ (zH rfl rfl rfl fl25_1 (by exact sz3) (by decide) rfl) ?_
  refine aqR (zG rfl rfl rfl rfl ag3 rfl rfl) ?_
  refine zQ (op_geq rfl rfl rfl) ?_
  (refine yL rfl rfl rfl ?_; repeat (first | exact fun _ _ => rfl | refine zU rfl ?_))
 simp only [nA]
 refine zQ (zC rfl rfl) ?_
 refine' yK [_, _, _] [12,13,14] rfl rfl rfl rfl rfl rfl rfl rfl rfl rfl rfl rfl (fun hb => ?_) ?_; rotate_left
 ·
  (try simp only [z7] at hb)
  refine zQ (zH rfl rfl rfl fl25_1 (by exact sz3) (by decide) rfl) ?_
  refine aqR (zG rfl rfl rfl rfl ag3 rfl rfl) ?_
  refine zQ (op_leq rfl rfl rfl) ?_
  (refine yL rfl rfl rfl ?_; repeat (first | exact fun _ _ => rfl | refine zU rfl ?_))
 simp only [nA]
 refine zQ (zC rfl rfl) ?_
 refine' yK [_, _, _] [17,18,19] rfl rfl rfl rfl rfl rfl rfl rfl rfl rfl rfl rfl (fun hb => ?_) ?_; rotate_left
 ·
  (try simp only [z7] at hb)
  refine zQ (zH rfl rfl rfl fl25_2 (by exact sz9) (by decide) rfl) ?_
  refine aqR (zG rfl rfl rfl rfl ag9 rfl rfl) ?_
  refine aqQ (zT (b := true) rfl en117 (C117 (lo := 0) (hi := 1) (by decide)) (RL.cons (by exact View.same rfl) (RL.cons (by exact View.same rfl) (RL.cons (by exact View.same rfl) (RL.nil)))) rfl) ?_; simp only [nA]
  (refine yL rfl rfl rfl ?_; repeat (first | exact fun _ _ => rfl | refine zU rfl ?_))
 simp only [nA]
 refine zQ (zC rfl rfl) ?_
 refine' yK [_, _, _] [22,23,24] rfl rfl rfl rfl rfl rfl rfl rfl rfl rfl rfl rfl (fun hb => ?_) ?_; rotate_left
 ·
  (try simp only [z7] at hb)
  refine zQ (zH rfl rfl rfl fl25_3 (by exact sz3) (by decide) rfl) ?_
  refine aqR (zG rfl rfl rfl rfl ag3 rfl rfl) ?_
  refine zQ (op_geq rfl rfl rfl) ?_
  (refine yL rfl rfl rfl ?_; repeat (first | exact fun _ _ => rfl | refine zU rfl ?_))
 simp only [nA]
 refine zQ (zC rfl rfl) ?_
 refine' yK [_, _, _] [27,28,29] rfl rfl rfl rfl rfl rfl rfl rfl rfl rfl rfl rfl (fun hb => ?_) ?_; rotate_left
 ·
  (try simp only [z7] at hb)
  refine zQ (zH rfl rfl rfl fl25_3 (by exact sz3) (by decide) rfl) ?_
  refine aqR (zG rfl rfl rfl rfl ag3 rfl rfl) ?_
  refine zQ (op_leq rfl rfl rfl) ?_
  (refine yL rfl rfl rfl ?_; repeat (first | exact fun _ _ => rfl | refine zU rfl ?_))
 simp only [nA]
 refine zQ (zD rfl rfl) ?_
 refine yN (hK _ ?_); clear hK K; simp only [nA]
 skip
 refine zO ?_; (try simp only [zI, zJ, Nat.reduceEqDiff, ↓reduceIte]); exact zS rfl (.tmp (bl rfl) rfl rfl .nil)
theorem C104 {p : Plate} : Fn Tryz.prog 104 [] [.agg p.av] [.v (.bool (plB p))] [] := by
 refine Spec.body Tryz.func104 rfl Tryz.ntmps104 (by simp) rfl ?_; intro S0 own0 v0 w0
 refine zA fun K hK => zB ?_
 refine yD (yO rfl rfl rfl sz23 rfl) ?_; simp only [nA, Nat.reduceBEq, Nat.reduceEqDiff, ↓reduceIte]
 refine zF (zD rfl rfl) ?_
 refine zE (hK _ ?_); clear hK K; try simp only [nA, Nat.reduceBEq, Nat.reduceEqDiff, ↓reduceIte, Nat.reduceAdd, Nat.reduceSub]
 refine zA fun K hK => zB (yS ?_)
 refine zQ (zH rfl rfl rfl fl23_0 (by exact sz3) (by decide) rfl) ?_
 refine aqR (zG rfl rfl rfl rfl ag3 rfl rfl) ?_
 refine zQ (op_geq rfl rfl rfl) ?_
 refine zQ (zC rfl rfl) ?_
 refine' yK [_, _, _] [7,8,9] rfl rfl rfl rfl rfl rfl rfl rfl rfl rfl rfl rfl (fun hb => ?_) ?_; rotate_left
 ·
  (try simp only [z7] at hb)
  refine zQ (zH rfl rfl rfl fl23_0 (by exact sz3) (by decide) rfl) ?_
  refine aqR (zG rfl rfl rfl rfl ag3 rfl rfl) ?_
  refine zQ (op_leq rfl rfl rfl) ?_
  (refine yL rfl rfl rfl ?_; repeat (first | exact fun _ _ => rfl | refine zU rfl ?_))
 simp only [nA]
 refine zQ (zC rfl rfl) ?_
 refine' yK [_, _, _] [12,13,14] rfl rfl rfl rfl rfl rfl rfl rfl rfl rfl rfl rfl (fun hb => ?_) ?_; rotate_left
 ·
  (try simp only [z7] at hb)
  refine zQ (zH rfl rfl rfl fl23_1 (by exact sz3) (by decide) rfl) ?_
  refine aqR (zG rfl rfl rfl rfl ag3 rfl rfl) ?_
  refine zQ (op_geq rfl rfl rfl) ?_
  (refine yL rfl rfl rfl ?_; repeat (first | exact fun _ _ => rfl | refine zU rfl ?_))
 simp only [nA]
 refine zQ (zC rfl rfl) ?_
 refine' yK [_, _, _] [17,18,19] rfl rfl rfl rfl rfl rfl rfl rfl rfl rfl rfl rfl (fun hb => ?_) ?_; rotate_left
 ·
  (try simp only [z7] at hb)
  refine zQ (zH rfl rfl rfl fl23_1 (by exact sz3) (by decide) rfl) ?_
  refine aqR (zG rfl rfl rfl rfl ag3 rfl rfl) ?_
  refine zQ (op_leq rfl rfl rfl) ?_
  (refine yL rfl rfl rfl ?_; repeat (first | exact fun _ _ => rfl | refine zU rfl ?_))
 simp only [nA]
 refine zQ (zC rfl rfl) ?_
 refine' yK [_, _, _] [22,23,24] rfl rfl rfl rfl rfl rfl rfl rfl rfl rfl rfl rfl (fun hb => ?_) ?_; rotate_left
 ·
  (try simp only [z7] at hb)
  refine zQ (zH rfl rfl rfl fl23_2 (by exact sz3) (by decide) rfl) ?_
  refine aqR (zG rfl rfl rfl rfl ag3 rfl rfl) ?_
  refine zQ (op_geq rfl rfl rfl) ?_
  (refine yL rfl rfl rfl ?_; repeat (first | exact fun _ _ => rfl | refine zU rfl ?_))
 simp only [nA]
 refine zQ (zC rfl rfl) ?_
 refine' yK [_, _, _] [27,28,29] rfl rfl rfl rfl rfl rfl rfl rfl rfl rfl rfl rfl (fun hb => ?_) ?_; rotate_left
 ·
  (try simp only [z7] at hb)
  refine zQ (zH rfl rfl rfl fl23_2 (by exact sz3) (by decide) rfl) ?_
  refine aqR (zG rfl rfl rfl rfl ag3 rfl rfl) ?_
  refine zQ (yP rfl rfl rfl) ?_
  (refine yL rfl rfl rfl ?_; repeat (first | exact fun _ _ => rfl | refine zU rfl ?_))
 simp only [nA]
 refine zQ (zD rfl rfl) ?_
 refine yN (hK _ ?_); clear hK K; simp only [nA]
 skip
 refine zO ?_; (try simp only [zI, zJ, Nat.reduceEqDiff, ↓reduceIte]); exact zS rfl (.tmp (bl rfl) rfl rfl .nil)
def orL (l : List Int) : Int := (l.find? (fun x => decide (x ≠ 0))).getD 0
theorem orL_yes {l : List Int} {i : Nat} (h : i < l.length) (hz : ∀ x ∈ l.take i, x = 0) (hx : l[i] ≠ 0) : orL l = l[i] := by
 have e : l = l.take i ++ l[i] :: l.drop (i + 1) := by rw [← List.drop_eq_getElem_cons h, List.take_append_drop]
 unfold orL
 conv => lhs; rw [e]
 rw [List.find?_append, List.find?_eq_none.2 (fun x hm => by simp [hz x hm]), List.find?_cons_of_pos (by simp [hx])]
 rfl
theorem orL_no {l : List Int} {i : Nat} (h : ¬ i < l.length) (hz : ∀ x ∈ l.take i, x = 0) : orL l = 0 := by
 rw [List.take_of_length_le (by omega)] at hz
 unfold orL
 rw [List.find?_eq_none.2 (fun x hm => by simp [hz x hm])]
 rfl
theorem C73g {l : List Int} (hl : l.length ≤ 1000000) : Fn Tryz.prog 73 [] [.ro (l.map fun n => [.v (.int .i64 n)])] [.v (.int .i64 (orL l))] [] := by
 refine Spec.body Tryz.func73 rfl Tryz.ntmps73 (by simp) rfl ?_; intro S0 own0 v0 w0
 refine zA fun K hK => zB ?_
 refine zF (zD rfl rfl) ?_
 refine zE (hK _ ?_); clear hK K; try simp only [nA, Nat.reduceBEq, Nat.reduceEqDiff, ↓reduceIte, Nat.reduceAdd, Nat.reduceSub]
 refine zA fun K hK => zB ?_
 refine zF (zD rfl rfl) ?_
 refine zE (hK _ ?_); clear hK K; try simp only [nA, Nat.reduceBEq, Nat.reduceEqDiff, ↓reduceIte, Nat.reduceAdd, Nat.reduceSub]
 refine zA fun K hK => ?_
 refine zA fun K hK => zB ?_
 refine zF (zC rfl rfl) ?_
 refine zF (zX rfl rfl Tryz.underlying36 (by exact .inr (.inl ⟨_, rfl, rfl⟩))) ?_
 refine zF (zC rfl rfl) ?_
 refine zE (hK _ ?_); clear hK K; simp only [nA, ↓reduceIte]
 refine zN ?_
 refine yC (fun i => [(3, .v (.int .i64 0)), (6, .ro (l.map fun n => [.v (.int .i64 n)])), (7, .v (.int .i64 l.length)), (8, .v (.int .i64 (i : Nat)))]) (fun _ => ⟨[], 1⟩) (fun i => i ≤ l.length ∧ ∀ x ∈ l.take i, x = 0) (fun i => l.length - i) 0 (by simp) ⟨rfl, rfl, rfl, rfl, trivial⟩ rfl ?_; intro i ρ hi; simp only [updL]
 refine zA fun K hK => zB ?_
 refine zF (yP rfl rfl rfl) ?_
 refine zE (hK _ ?_); clear hK K; try simp only [nA, Nat.reduceBEq, Nat.reduceEqDiff, ↓reduceIte, Nat.reduceAdd, Nat.reduceSub]
 refine zA fun K hK => ?_
 refine zL rfl rfl rfl (fun hc => ?_) (fun hc => ?_)
 ·
  (try simp only [z7] at hc); have hc1 := hc
  refine zM ?_
  refine hK _ ?_; clear hK K
  refine zA fun K hK => zN ?_
  refine zA fun K hK => zB ?_
  refine zF (zW _ rfl (.inl rfl) rfl Tryz.underlying36 rfl (get_map (by omega)) (by exact sz3) (bl rfl)) ?_
  refine awR (yA rfl rfl ag3) ?_
  refine zF (zD rfl rfl) ?_
  refine zE (hK _ ?_); clear hK K; simp only [nA]
  refine zA fun K hK => zB ?_
  refine zF (zC rfl rfl) ?_
  refine zF (zC rfl rfl) ?_
  refine zF (op_neq rfl rfl rfl) ?_
  refine zE (hK _ ?_); clear hK K; simp only [nA, ↓reduceIte]
  refine zL rfl rfl rfl (fun hc => ?_) (fun hc => ?_)
  ·
   (try simp only [z7] at hc); have hc2 := hc
   refine zA fun K hK => zB ?_
   refine zF (zC rfl rfl) ?_
   refine zF (zD rfl rfl) ?_
   refine zE (hK _ ?_); clear hK K; simp only [nA, ↓reduceIte]
   skip
   refine zO ?_; (try simp only [zI, zJ, Nat.reduceEqDiff, ↓reduceIte]); rw [orL_yes (i := i) (by omega) hi.2 (by simpa using hc)]; exact zS rfl (.tmp (bl rfl) rfl rfl .nil)
  (try simp only [z7] at hc); have hc2 := hc
  refine zM ?_
  (try simp only [zI, zJ, Nat.reduceEqDiff, ↓reduceIte])
  refine hK _ ?_; clear hK K
  refine zB ?_
  refine zF (zR rfl rfl rfl (by omega)) ?_
  refine zF (zC rfl rfl) ?_
  skip
  refine zE ?_
  refine ⟨i + 1, ⟨by omega, fun x hx => ?_⟩, by omega, ⟨rfl, rfl, rfl, rfl, trivial⟩, rfl, rfl⟩; rw [List.take_add_one, List.mem_append] at hx; rcases hx with hx | hx; exact hi.2 x hx; rw [List.getElem?_eq_getElem (by omega)] at hx; simp at hx; rw [hx]; simpa using hc
 (try simp only [z7] at hc); have hc1 := hc
 refine yE ?_; try simp only [zI, zJ, Nat.reduceEqDiff, ↓reduceIte]
 clear hK K
 refine hK _ ?_; clear hK K
 refine zA fun K hK => zB ?_
 refine zF (zC rfl rfl) ?_
 refine zF (zD rfl rfl) ?_
 refine zE (hK _ ?_); clear hK K; simp only [nA, ↓reduceIte]
 skip
 refine zO ?_; (try simp only [zI, zJ, Nat.reduceEqDiff, ↓reduceIte]); rw [orL_no (i := i) (by omega) hi.2]; exact zS rfl (.tmp (bl rfl) rfl rfl .nil)
theorem C73 {a b c : Int} : Fn Tryz.prog 73 [] [.ro [[.v (.int .i64 a)], [.v (.int .i64 b)], [.v (.int .i64 c)]]] [.v (.int .i64 (orL [a, b, c]))] [] := C73g (l := [a, b, c]) (by simp)
set_option maxRecDepth 100000
theorem st23 : Tryz.prog.stoodInHeld 23 = false := by kernel_rfl
theorem fo23 : Tryz.prog.underlying 23 = some (.struct (Tryz.prog.fieldsOf 23)) := by
 unfold Program.fieldsOf; rw [Tryz.underlying23]
theorem ty23 : Tryz.prog.eqGuardType Tryz.prog.depth 23 = false := by kernel_rfl
theorem run_eq23 (p q : Plate) (w : World) : (binOp .eql 23 (.agg #[.int .i64 p.lead, .int .i64 p.airline, .int .i64 p.serial]) (.agg #[.int .i64 q.lead, .int .i64 q.airline, .int .i64 q.serial])).run Tryz.prog w = .ok (.bool (decide (p = q))) w := by
 obtain ⟨a, b, c⟩ := p
 obtain ⟨a', b', c'⟩ := q
 unfold binOp
 simp only [Op.equal]
 rw [Sem.run_bind, show Op.maxDepth = 9998 + 1 + 1 from rfl, run_equalIn_struct w _ 23 _ _ fo23 st23]
 unfold Program.fieldsOf; rw [Tryz.underlying23]
 simp only [Op.eqFields]
 go_simp
 by_cases h1 : a = a' <;> by_cases h2 : b = b' <;> by_cases h3 : c = c' <;> simp [h1, h2, h3]
theorem run_ty23 (p q : Operand) (x y : Array Value) (w : World) : (eqGuard .eql 23 p q (.agg x) (.agg y)).run Tryz.prog w = .ok () w := by
 unfold eqGuard
 simp [ty23, run_program]
section
variable {S0 : Nat → Prop} {own0 : List Nat} {v0 : List Value} {w0 : World} {o : Oper} {ev : Operand → AV} {T : Sl} {yt : TypeId} {y z : Operand} {p q : Plate}
theorem op_eq23 (ho : o.op = .binOp .eql 23 y z yt) (hy : ev y = .agg p.av) (hz : ev z = .agg q.av) : OpP ⟨Tryz.prog, S0, own0, v0, w0⟩ o ev T (.v (.bool (decide (p = q)))) :=
 op_bin_agg (xs := [.int .i64 p.lead, .int .i64 p.airline, .int .i64 p.serial]) (ys := [.int .i64 q.lead, .int .i64 q.airline, .int .i64 q.serial]) ho hy hz (fun w => run_ty23 _ _ _ _ w) (fun w => run_eq23 p q w) rfl
end
def cmpP (p q : Plate) : Int := orL [cmpI p.lead q.lead, cmpI p.airline q.airline, cmpI p.serial q.serial]
theorem C49 {p q : Plate} : Fn Tryz.prog 49 [] [.agg p.av, .agg q.av] [.v (.int .i64 (cmpP p q))] [] := by
 refine Spec.body Tryz.func49 rfl Tryz.ntmps49 (by simp) rfl ?_; intro S0 own0 v0 w0
 refine zA fun K hK => zB ?_
 refine yD (yO rfl rfl rfl sz23 rfl) ?_; simp only [nA, Nat.reduceBEq, Nat.reduceEqDiff, ↓reduceIte]
 refine yD (yO rfl rfl rfl sz23 rfl) ?_; simp only [nA, Nat.reduceBEq, Nat.reduceEqDiff, ↓reduceIte]
 refine zF (zD rfl rfl) ?_; try simp only [nA, Nat.reduceBEq, Nat.reduceEqDiff, ↓reduceIte, Nat.reduceAdd, Nat.reduceSub]
 refine zE (hK _ ?_); clear hK K; try simp only [nA, Nat.reduceBEq, Nat.reduceEqDiff, ↓reduceIte, Nat.reduceAdd, Nat.reduceSub]
 refine zA fun K hK => ?_
 refine AW.quiet_tail 15 mix (by kernel_rfl) rfl rfl ?_
 (refine zQ (zH rfl rfl rfl fl23_0 (by exact sz3) (by decide) rfl) ?_); try simp only [nA, Nat.reduceBEq, Nat.reduceEqDiff, ↓reduceIte, Nat.reduceAdd, Nat.reduceSub]
 (refine aqR (zG rfl rfl rfl rfl ag3 rfl rfl) ?_); try simp only [nA, Nat.reduceBEq, Nat.reduceEqDiff, ↓reduceIte, Nat.reduceAdd, Nat.reduceSub]
 (refine zQ (zH rfl rfl rfl fl23_0 (by exact sz3) (by decide) rfl) ?_); try simp only [nA, Nat.reduceBEq, Nat.reduceEqDiff, ↓reduceIte, Nat.reduceAdd, Nat.reduceSub]
 (refine aqR (zG rfl rfl rfl rfl ag3 rfl rfl) ?_); try simp only [nA, Nat.reduceBEq, Nat.reduceEqDiff, ↓reduceIte, Nat.reduceAdd, Nat.reduceSub]
 refine aqQ (zT (b := true) rfl en74 (C74) (RL.cons (by exact View.same rfl) (RL.cons (by exact View.same rfl) (RL.nil))) rfl) ?_; try simp only [nA, Nat.reduceBEq, Nat.reduceEqDiff, ↓reduceIte, Nat.reduceAdd, Nat.reduceSub]
 (refine zQ (zH rfl rfl rfl fl23_1 (by exact sz3) (by decide) rfl) ?_); try simp only [nA, Nat.reduceBEq, Nat.reduceEqDiff, ↓reduceIte, Nat.reduceAdd, Nat.reduceSub]
 (refine aqR (zG rfl rfl rfl rfl ag3 rfl rfl) ?_); try simp only [nA, Nat.reduceBEq, Nat.reduceEqDiff, ↓reduceIte, Nat.reduceAdd, Nat.reduceSub]
 (refine zQ (zH rfl rfl rfl fl23_1 (by exact sz3) (by decide) rfl) ?_); try simp only [nA, Nat.reduceBEq, Nat.reduceEqDiff, ↓reduceIte, Nat.reduceAdd, Nat.reduceSub]
 (refine aqR (zG rfl rfl rfl rfl ag3 rfl rfl) ?_); try simp only [nA, Nat.reduceBEq, Nat.reduceEqDiff, ↓reduceIte, Nat.reduceAdd, Nat.reduceSub]
 refine aqQ (zT (b := true) rfl en74 (C74) (RL.cons (by exact View.same rfl) (RL.cons (by exact View.same rfl) (RL.nil))) rfl) ?_; try simp only [nA, Nat.reduceBEq, Nat.reduceEqDiff, ↓reduceIte, Nat.reduceAdd, Nat.reduceSub]
 (refine zQ (zH rfl rfl rfl fl23_2 (by exact sz3) (by decide) rfl) ?_); try simp only [nA, Nat.reduceBEq, Nat.reduceEqDiff, ↓reduceIte, Nat.reduceAdd, Nat.reduceSub]
 (refine aqR (zG rfl rfl rfl rfl ag3 rfl rfl) ?_); try simp only [nA, Nat.reduceBEq, Nat.reduceEqDiff, ↓reduceIte, Nat.reduceAdd, Nat.reduceSub]
 (refine zQ (zH rfl rfl rfl fl23_2 (by exact sz3) (by decide) rfl) ?_); try simp only [nA, Nat.reduceBEq, Nat.reduceEqDiff, ↓reduceIte, Nat.reduceAdd, Nat.reduceSub]
 (refine aqR (zG rfl rfl rfl rfl ag3 rfl rfl) ?_); try simp only [nA, Nat.reduceBEq, Nat.reduceEqDiff, ↓reduceIte, Nat.reduceAdd, Nat.reduceSub]
 refine aqQ (zT (b := true) rfl en74 (C74) (RL.cons (by exact View.same rfl) (RL.cons (by exact View.same rfl) (RL.nil))) rfl) ?_; try simp only [nA, Nat.reduceBEq, Nat.reduceEqDiff, ↓reduceIte, Nat.reduceAdd, Nat.reduceSub]
 refine yN ?_
 refine yD (zV rfl [(0, [_]), (1, [_]), (2, [_])] [[_], [_], [_]] Tryz.underlying36 ze3 rfl (by simp) rfl (by simp) rfl (bl rfl) (by simp [maxLen])) ?_; simp only [nA, Nat.reduceBEq, Nat.reduceEqDiff, ↓reduceIte]
 refine yD (OpQ.j (zT (b := true) rfl en73 (C73) (RL.cons (by exact View.src (.sl rfl rfl)) (RL.nil)) rfl)) ?_; try simp only [nA, Nat.reduceBEq, Nat.reduceEqDiff, ↓reduceIte, Nat.reduceAdd, Nat.reduceSub]
 refine zF (zD rfl rfl) ?_; simp only [nA]
 refine zE (hK _ ?_); clear hK K
 skip
 refine zO ?_; (try simp only [zI, zJ, Nat.reduceEqDiff, ↓reduceIte]); exact zS rfl (.tmp (bl rfl) rfl rfl .nil)
def sumW (l : List Piece) : Int := (l.map Piece.weight).sum
theorem sum_bd : ∀ (l : List Piece), (∀ p ∈ l, 0 ≤ p.weight ∧ p.weight ≤ 1000) → 0 ≤ sumW l ∧ sumW l ≤ 1000 * l.length
 | [], _ => by simp [sumW]
 | p :: l, h => by
   have := sum_bd l fun q hq => h q (by simp [hq])
   have := h p (by simp)
   simp [sumW] at *
   omega
theorem sum_step {l : List Piece} {i : Nat} (h : i < l.length) : sumW (l.take (i + 1)) = sumW (l.take i) + l[i].weight := by
 unfold sumW
 rw [List.take_add_one, List.getElem?_eq_getElem h]
 simp only [Option.toList, List.map_append, List.map_cons, List.map_nil, List.sum_append, List.sum_cons, List.sum_nil, Int.add_zero]
theorem C79 {l : List Piece} (hl : l.length ≤ 1000) (hw : ∀ p ∈ l, 0 ≤ p.weight ∧ p.weight ≤ 1000) : Fn Tryz.prog 79 [] [.ro (l.map Piece.av)] [.v (.int .i64 (sumW l))] [] := by
 refine Spec.body Tryz.func79 rfl Tryz.ntmps79 (by simp) rfl ?_; intro S0 own0 v0 w0
 refine zA fun K hK => zB ?_
 refine zF (zD rfl rfl) ?_; try simp only [nA, Nat.reduceBEq, Nat.reduceEqDiff, ↓reduceIte, Nat.reduceAdd, Nat.reduceSub]
 refine zE (hK _ ?_); clear hK K; try simp only [nA, Nat.reduceBEq, Nat.reduceEqDiff, ↓reduceIte, Nat.reduceAdd, Nat.reduceSub]
 refine zA fun K hK => zB ?_
 refine zF (zD rfl rfl) ?_; try simp only [nA, Nat.reduceBEq, Nat.reduceEqDiff, ↓reduceIte, Nat.reduceAdd, Nat.reduceSub]
 refine zE (hK _ ?_); clear hK K
 refine zA fun K hK => ?_
 refine zA fun K hK => zB ?_
 refine zF (zC rfl rfl) ?_; simp only [nA, ↓reduceIte]
 (refine zF (zX rfl rfl Tryz.underlying117 (by exact .inr (.inl ⟨_, rfl, rfl⟩))) ?_); try simp only [nA, Nat.reduceBEq, Nat.reduceEqDiff, ↓reduceIte, Nat.reduceAdd, Nat.reduceSub]
 refine zF (zC rfl rfl) ?_; try simp only [nA, Nat.reduceBEq, Nat.reduceEqDiff, ↓reduceIte, Nat.reduceAdd, Nat.reduceSub]
 refine zE (hK _ ?_); clear hK K
 refine zN ?_
 refine yC (fun i => [(3, .v (.int .i64 (sumW (l.take i)))), (6, .ro (l.map Piece.av)), (7, .v (.int .i64 l.length)), (8, .v (.int .i64 (i : Nat)))]) (fun i => ⟨[], 1 + i⟩) (fun i => i ≤ l.length) (fun i => l.length - i) 0 (by simp) ⟨rfl, rfl, rfl, rfl, trivial⟩ rfl ?_; intro i ρ hi; simp only [updL]; have hsb := sum_bd (l.take i) fun p hp => hw p (List.mem_of_mem_take hp); have hli : ((l.take i).length : Int) ≤ 1000 := (by simp; omega)
 refine zA fun K hK => zB ?_
 refine zF (yP rfl rfl rfl) ?_; try simp only [nA, Nat.reduceBEq, Nat.reduceEqDiff, ↓reduceIte, Nat.reduceAdd, Nat.reduceSub]
 refine zE (hK _ ?_); clear hK K
 refine zA fun K hK => ?_
 refine zL rfl rfl rfl (fun hc => ?_) (fun hc => ?_)
 ·
  (try simp only [z7] at hc); have hc1 := hc; have hwi := hw l[i] (List.getElem_mem (by omega))
  refine zM ?_
  refine hK _ ?_; clear hK K
  refine zA fun K hK => zN ?_
  refine zA fun K hK => zB ?_
  (refine zF (zW _ rfl (.inl rfl) rfl Tryz.underlying117 rfl (get_map (by omega)) (by exact sz34) (bl rfl)) ?_); try simp only [nA, Nat.reduceBEq, Nat.reduceEqDiff, ↓reduceIte, Nat.reduceAdd, Nat.reduceSub]
  (refine awR (zY rfl rfl ag35 yR (bl rfl) (by decide) rfl) ?_); try simp only [nA, Nat.reduceBEq, Nat.reduceEqDiff, ↓reduceIte, Nat.reduceAdd, Nat.reduceSub]
  refine yD (op_alloc rfl ze35 rfl) ?_; try simp only [nA, Nat.reduceBEq, Nat.reduceEqDiff, ↓reduceIte, Nat.reduceAdd, Nat.reduceSub]
  refine yD (z8 rfl rfl rfl rfl rfl rfl yR rfl (bl rfl) rfl) ?_; simp only [nA, Nat.reduceBEq, Nat.reduceEqDiff, ↓reduceIte]
  refine zE (hK _ ?_); clear hK K
  refine zB ?_
  refine zF (zC rfl rfl) ?_; simp only [nA, ↓reduceIte]
  (refine zF (zH rfl rfl rfl fl35_1 (by exact sz3) (by decide) rfl) ?_); try simp only [nA, Nat.reduceBEq, Nat.reduceEqDiff, ↓reduceIte, Nat.reduceAdd, Nat.reduceSub]
  (refine awR (zG rfl rfl rfl rfl ag3 rfl rfl) ?_); try simp only [nA, Nat.reduceBEq, Nat.reduceEqDiff, ↓reduceIte, Nat.reduceAdd, Nat.reduceSub]
  (refine zF (zR rfl rfl rfl (by omega)) ?_); try simp only [nA, Nat.reduceBEq, Nat.reduceEqDiff, ↓reduceIte, Nat.reduceAdd, Nat.reduceSub]
  refine zF (zD rfl rfl) ?_; simp only [nA]
  refine zE ?_
  (try simp only [zI, zJ, Nat.reduceEqDiff, ↓reduceIte])
  refine hK _ ?_; clear hK K
  refine zB ?_
  (refine zF (zR rfl rfl rfl (by omega)) ?_); try simp only [nA, Nat.reduceBEq, Nat.reduceEqDiff, ↓reduceIte, Nat.reduceAdd, Nat.reduceSub]
  refine zF (zC rfl rfl) ?_; simp only [nA]
  refine AWL.gh (Gh.drop 0) ?_; try simp only [nA, Nat.reduceBEq, Nat.reduceEqDiff, ↓reduceIte, Nat.reduceAdd, Nat.reduceSub]
  refine zE ?_
  refine ⟨i + 1, by omega, by omega, ⟨(by rw [sum_step (by omega)]; rfl), rfl, rfl, rfl, trivial⟩, rfl, rfl⟩
 (try simp only [z7] at hc); have hc1 := hc
 refine yE ?_; try simp only [zI, zJ, Nat.reduceEqDiff, ↓reduceIte]
 clear hK K
 refine hK _ ?_; clear hK K
 refine zA fun K hK => zB ?_
 refine zF (zC rfl rfl) ?_; simp only [nA, ↓reduceIte]
 refine zF (zD rfl rfl) ?_; simp only [nA]
 refine zE (hK _ ?_); clear hK K
 skip
 refine zO ?_; (try simp only [zI, zJ, Nat.reduceEqDiff, ↓reduceIte]); rw [show sumW l = sumW (l.take i) by rw [List.take_of_length_le (by omega)]]; exact zS rfl (.tmp (bl rfl) rfl rfl .nil)
set_option maxRecDepth 100000
def bitB (cats cat : Int) : Bool := decide (IntKind.i64.wrap ((BitVec.ofInt 64 (cats.fdiv (2 ^ min cat.toNat 64)) &&& BitVec.ofInt 64 1).toNat) = 1)
theorem C78 {c : Container} {cat : Int} (h : 0 ≤ cat) : Fn Tryz.prog 78 [] [.agg c.av, .v (.int .i64 cat)] [.v (.bool (bitB c.categories cat))] [] := by
 refine Spec.body Tryz.func78 rfl Tryz.ntmps78 (by simp) rfl ?_; intro S0 own0 v0 w0
 refine zA fun K hK => zB ?_
 refine yD (yO rfl rfl rfl yH rfl) ?_; simp only [nA, Nat.reduceBEq, Nat.reduceEqDiff, ↓reduceIte]
 refine zF (zD rfl rfl) ?_
 refine zE (hK _ ?_); clear hK K; try simp only [nA, Nat.reduceBEq, Nat.reduceEqDiff, ↓reduceIte, Nat.reduceAdd, Nat.reduceSub]
 refine zA fun K hK => zB ?_
 refine zF (zH rfl rfl rfl fl33_2 (by exact sz3) (by decide) rfl) ?_
 refine awR (zG rfl rfl rfl rfl ag3 rfl rfl) ?_
 refine zF (zC rfl rfl) ?_
 refine zF (op_shr rfl rfl rfl (by omega) rfl) ?_
 refine zF (op_and rfl rfl rfl rfl) ?_
 refine zF (op_eql rfl rfl rfl) ?_
 refine zF (zD rfl rfl) ?_
 refine zE (hK _ ?_); clear hK K; simp only [nA, ↓reduceIte]
 skip
 refine zO ?_; (try simp only [zI, zJ, Nat.reduceEqDiff, ↓reduceIte]); exact zS rfl (.tmp (bl rfl) rfl rfl .nil)
def coB (c : Container) : Bool := (((((inB c.number 1 999 && flB c.flight) && inB c.categories 0 31) && inB c.limit 0 20000) && inB c.most 0 60) && inB c.position 0 24) && inB c.arm (-50) 50
def piB (p : Piece) : Bool := (plB p.plate && inB p.weight 1 999) && inB p.category 0 4
theorem C83 {c : Container} : Fn Tryz.prog 83 [] [.agg c.av] [.v (.bool (coB c))] [] := by
 refine Spec.body Tryz.func83 rfl Tryz.ntmps83 (by simp) rfl ?_; intro S0 own0 v0 w0
 refine zA fun K hK => zB ?_
 refine yD (yO rfl rfl rfl yH rfl) ?_; simp only [nA, Nat.reduceBEq, Nat.reduceEqDiff, ↓reduceIte]
 refine zF (zD rfl rfl) ?_
 refine zE (hK _ ?_); clear hK K; try simp only [nA, Nat.reduceBEq, Nat.reduceEqDiff, ↓reduceIte, Nat.reduceAdd, Nat.reduceSub]
 refine zA fun K hK => zB (yS ?_)
 refine zQ (zH rfl rfl rfl fl33_0 (by exact sz3) (by decide) rfl) ?_
 refine aqR (zG rfl rfl rfl rfl ag3 rfl rfl) ?_
 refine aqQ (zT (b := true) rfl en105 (C105) (RL.cons (by exact View.same rfl) (RL.cons (by exact View.same rfl) (RL.cons (by exact View.same rfl) (RL.nil)))) rfl) ?_; try simp only [nA, Nat.reduceBEq, Nat.reduceEqDiff, ↓reduceIte, Nat.reduceAdd, Nat.reduceSub]
 refine zQ (zC rfl rfl) ?_
 refine' yK [_, _, _] [7,8,9] rfl rfl rfl rfl rfl rfl rfl rfl rfl rfl rfl rfl (fun hb => ?_) ?_; rotate_left
 ·
  (try simp only [z7] at hb)
  refine zQ (zH rfl rfl rfl fl33_1 (by exact sz25) (by decide) rfl) ?_
  refine aqR (zK rfl rfl rfl rfl ag25 sz25 (bl rfl) rfl) ?_
  refine aqQ (zT (b := true) rfl en108 (C108) (RL.cons (by exact View.same rfl) (RL.nil)) rfl) ?_; simp only [nA]
  (refine yL rfl rfl rfl ?_; repeat (first | exact fun _ _ => rfl | refine zU rfl ?_))
 simp only [nA]
 refine zQ (zC rfl rfl) ?_
 refine' yK [_, _, _] [12,13,14] rfl rfl rfl rfl rfl rfl rfl rfl rfl rfl rfl rfl (fun hb => ?_) ?_; rotate_left
 ·
  (try simp only [z7] at hb)
  refine zQ (zH rfl rfl rfl fl33_2 (by exact sz3) (by decide) rfl) ?_
  refine aqR (zG rfl rfl rfl rfl ag3 rfl rfl) ?_
  refine aqQ (zT (b := true) rfl en105 (C105) (RL.cons (by exact View.same rfl) (RL.cons (by exact View.same rfl) (RL.cons (by exact View.same rfl) (RL.nil)))) rfl) ?_; simp only [nA]
  (refine yL rfl rfl rfl ?_; repeat (first | exact fun _ _ => rfl | refine zU rfl ?_))
 simp only [nA]
 refine zQ (zC rfl rfl) ?_
 refine' yK [_, _, _] [17,18,19] rfl rfl rfl rfl rfl rfl rfl rfl rfl rfl rfl rfl (fun hb => ?_) ?_; rotate_left
 ·
  (try simp only [z7] at hb)
  refine zQ (zH rfl rfl rfl fl33_3 (by exact sz3) (by decide) rfl) ?_
  refine aqR (zG rfl rfl rfl rfl ag3 rfl rfl) ?_
  refine aqQ (zT (b := true) rfl en105 (C105) (RL.cons (by exact View.same rfl) (RL.cons (by exact View.same rfl) (RL.cons (by exact View.same rfl) (RL.nil)))) rfl) ?_; simp only [nA]
  (refine yL rfl rfl rfl ?_; repeat (first | exact fun _ _ => rfl | refine zU rfl ?_))
 simp only [nA]
 refine zQ (zC rfl rfl) ?_
 refine' yK [_, _, _] [22,23,24] rfl rfl rfl rfl rfl rfl rfl rfl rfl rfl rfl rfl (fun hb => ?_) ?_; rotate_left
 ·
  (try simp only [z7] at hb)
  refine zQ (zH rfl rfl rfl fl33_4 (by exact sz3) (by decide) rfl) ?_
  refine aqR (zG rfl rfl rfl rfl ag3 rfl rfl) ?_
  refine aqQ (zT (b := true) rfl en105 (C105) (RL.cons (by exact View.same rfl) (RL.cons (by exact View.same rfl) (RL.cons (by exact View.same rfl) (RL.nil)))) rfl) ?_; simp only [nA]
  (refine yL rfl rfl rfl ?_; repeat (first | exact fun _ _ => rfl | refine zU rfl ?_))
 simp only [nA]
 refine zQ (zC rfl rfl) ?_
 refine' yK [_, _, _] [27,28,29] rfl rfl rfl rfl rfl rfl rfl rfl rfl rfl rfl rfl (fun hb => ?_) ?_; rotate_left
 ·
  (try simp only [z7] at hb)
  refine zQ (zH rfl rfl rfl fl33_5 (by exact sz3) (by decide) rfl) ?_
  refine aqR (zG rfl rfl rfl rfl ag3 rfl rfl) ?_
  refine aqQ (zT (b := true) rfl en105 (C105) (RL.cons (by exact View.same rfl) (RL.cons (by exact View.same rfl) (RL.cons (by exact View.same rfl) (RL.nil)))) rfl) ?_; simp only [nA]
  (refine yL rfl rfl rfl ?_; repeat (first | exact fun _ _ => rfl | refine zU rfl ?_))
 simp only [nA]
 refine zQ (zC rfl rfl) ?_
 refine' yK [_, _, _] [32,33,34] rfl rfl rfl rfl rfl rfl rfl rfl rfl rfl rfl rfl (fun hb => ?_) ?_; rotate_left
 ·
  (try simp only [z7] at hb)
  refine zQ (zH rfl rfl rfl fl33_6 (by exact sz3) (by decide) rfl) ?_
  refine aqR (zG rfl rfl rfl rfl ag3 rfl rfl) ?_
  refine aqQ (zT (b := true) rfl en105 (C105) (RL.cons (by exact View.same rfl) (RL.cons (by exact View.same rfl) (RL.cons (by exact View.same rfl) (RL.nil)))) rfl) ?_; simp only [nA]
  (refine yL rfl rfl rfl ?_; repeat (first | exact fun _ _ => rfl | refine zU rfl ?_))
 simp only [nA]
 refine zQ (zD rfl rfl) ?_
 refine yN (hK _ ?_); clear hK K; simp only [nA]
 skip
 refine zO ?_; (try simp only [zI, zJ, Nat.reduceEqDiff, ↓reduceIte]); exact zS rfl (.tmp (bl rfl) rfl rfl .nil)
theorem C76 {p : Piece} : Fn Tryz.prog 76 [] [.agg p.av] [.v (.bool (piB p))] [] := by
 refine Spec.body Tryz.func76 rfl Tryz.ntmps76 (by simp) rfl ?_; intro S0 own0 v0 w0
 refine zA fun K hK => zB ?_
 refine yD (yO rfl rfl rfl yR rfl) ?_; simp only [nA, Nat.reduceBEq, Nat.reduceEqDiff, ↓reduceIte]
 refine zF (zD rfl rfl) ?_
 refine zE (hK _ ?_); clear hK K; try simp only [nA, Nat.reduceBEq, Nat.reduceEqDiff, ↓reduceIte, Nat.reduceAdd, Nat.reduceSub]
 refine zA fun K hK => zB (yS ?_)
 refine zQ (zH rfl rfl rfl fl35_0 (by exact sz23) (by decide) rfl) ?_
 refine aqR (zK rfl rfl rfl rfl ag23 sz23 (bl rfl) rfl) ?_
 refine aqQ (zT (b := true) rfl en104 (C104) (RL.cons (by exact View.same rfl) (RL.nil)) rfl) ?_; try simp only [nA, Nat.reduceBEq, Nat.reduceEqDiff, ↓reduceIte, Nat.reduceAdd, Nat.reduceSub]
 refine zQ (zC rfl rfl) ?_
 refine' yK [_, _, _] [7,8,9] rfl rfl rfl rfl rfl rfl rfl rfl rfl rfl rfl rfl (fun hb => ?_) ?_; rotate_left
 ·
  (try simp only [z7] at hb)
  refine zQ (zH rfl rfl rfl fl35_1 (by exact sz3) (by decide) rfl) ?_
  refine aqR (zG rfl rfl rfl rfl ag3 rfl rfl) ?_
  refine aqQ (zT (b := true) rfl en105 (C105) (RL.cons (by exact View.same rfl) (RL.cons (by exact View.same rfl) (RL.cons (by exact View.same rfl) (RL.nil)))) rfl) ?_; simp only [nA]
  (refine yL rfl rfl rfl ?_; repeat (first | exact fun _ _ => rfl | refine zU rfl ?_))
 simp only [nA]
 refine zQ (zC rfl rfl) ?_
 refine' yK [_, _, _] [12,13,14] rfl rfl rfl rfl rfl rfl rfl rfl rfl rfl rfl rfl (fun hb => ?_) ?_; rotate_left
 ·
  (try simp only [z7] at hb)
  refine zQ (zH rfl rfl rfl fl35_2 (by exact sz3) (by decide) rfl) ?_
  refine aqR (zG rfl rfl rfl rfl ag3 rfl rfl) ?_
  refine aqQ (zT (b := true) rfl en105 (C105) (RL.cons (by exact View.same rfl) (RL.cons (by exact View.same rfl) (RL.cons (by exact View.same rfl) (RL.nil)))) rfl) ?_; simp only [nA]
  (refine yL rfl rfl rfl ?_; repeat (first | exact fun _ _ => rfl | refine zU rfl ?_))
 simp only [nA]
 refine zQ (zD rfl rfl) ?_
 refine yN (hK _ ?_); clear hK K; simp only [nA]
 skip
 refine zO ?_; (try simp only [zI, zJ, Nat.reduceEqDiff, ↓reduceIte]); exact zS rfl (.tmp (bl rfl) rfl rfl .nil)
set_option maxRecDepth 100000
def errI (l : List Piece) (i : Nat) : Int :=
 match l[i]? with
 | none => 0
 | some p => if piB p = false then 1 else if i = 0 then 0 else
   match l[i - 1]? with
   | none => 0
   | some q => if cmpP q.plate p.plate = 0 then 5 else if cmpP q.plate p.plate = 1 then 9 else 0
def valP (l : List Piece) : Int := orL ((List.range l.length).map (errI l))
def valC (c : Container) : Int := if coB c = false then 1 else if c.pieces.length > 60 then 2 else valP c.pieces
theorem errI_at {l : List Piece} {i : Nat} (h : i < l.length) : errI l i = if piB l[i] = false then 1 else if i = 0 then 0 else if cmpP l[i - 1].plate l[i].plate = 0 then 5 else if cmpP l[i - 1].plate l[i].plate = 1 then 9 else 0 := by
 unfold errI
 rw [List.getElem?_eq_getElem h, List.getElem?_eq_getElem (show i - 1 < l.length by omega)]
theorem mem_take_range {f : Nat → Int} {n i : Nat} {x : Int} (h : x ∈ ((List.range n).map f).take i) : ∃ k, k < i ∧ x = f k := by
 rw [← List.map_take, List.take_range] at h
 obtain ⟨k, hk, rfl⟩ := List.mem_map.1 h
 exact ⟨k, by have := List.mem_range.1 hk; omega, rfl⟩
theorem val_err {c : Container} {i : Nat} {e : Int} (h1 : coB c = true) (h2 : c.pieces.length ≤ 60) (hi : i < c.pieces.length) (hz : ∀ k, k < i → errI c.pieces k = 0) (he : errI c.pieces i = e) (h0 : e ≠ 0) : valC c = e := by
 unfold valC valP
 rw [if_neg (by simp [h1]), if_neg (by omega), orL_yes (i := i) (by simpa using hi) (fun x hx => ?_) (by simp [he, h0])]
 · simp [he]
 obtain ⟨k, hk, rfl⟩ := mem_take_range hx; exact hz k hk
theorem val_ok {c : Container} {i : Nat} (h1 : coB c = true) (h2 : c.pieces.length ≤ 60) (hi : ¬ i < c.pieces.length) (hz : ∀ k, k < i → errI c.pieces k = 0) : valC c = 0 := by
 unfold valC valP
 rw [if_neg (by simp [h1]), if_neg (by omega), orL_no (i := i) (by simpa using hi) (fun x hx => ?_)]
 obtain ⟨k, hk, rfl⟩ := mem_take_range hx; exact hz k hk
theorem all_step {f : Nat → Int} {i : Nat} (h : ∀ k, k < i → f k = 0) (h2 : f i = 0) : ∀ k, k < i + 1 → f k = 0 := fun k hk => by
 by_cases e : k = i
 · rw [e, h2]
 exact h k (by omega)
theorem C60 {c : Container} : Fn Tryz.prog 60 [] [.agg c.av] [.v (.int .i64 (valC c))] [] := by
 refine Spec.body Tryz.func60 rfl Tryz.ntmps60 (by simp) rfl ?_; intro S0 own0 v0 w0
 refine zA fun K hK => zB ?_
 refine yD (yO rfl rfl rfl yH rfl) ?_; simp only [nA, Nat.reduceBEq, Nat.reduceEqDiff, ↓reduceIte]
 refine zF (zD rfl rfl) ?_
 refine zE (hK _ ?_); clear hK K; try simp only [nA, Nat.reduceBEq, Nat.reduceEqDiff, ↓reduceIte, Nat.reduceAdd, Nat.reduceSub]
 refine zA fun K hK => ?_
 refine zA fun K hK => zB ?_
 refine awR (zK rfl rfl rfl rfl ag33 yH (bl rfl) rfl) ?_
 refine yD (OpQ.j (zT (b := true) rfl en83 (C83) (RL.cons (by exact View.same rfl) (RL.nil)) rfl)) ?_; try simp only [nA, Nat.reduceBEq, Nat.reduceEqDiff, ↓reduceIte, Nat.reduceAdd, Nat.reduceSub]
 refine zF (op_not rfl rfl rfl) ?_
 refine zE (hK _ ?_); clear hK K; try simp only [nA, Nat.reduceBEq, Nat.reduceEqDiff, ↓reduceIte, Nat.reduceAdd, Nat.reduceSub]
 refine zL rfl rfl rfl (fun hc => ?_) (fun hc => ?_)
 ·
  (try simp only [z7] at hc); have hc1 := hc
  refine zA fun K hK => zB ?_
  refine zF (zD rfl rfl) ?_
  refine zE (hK _ ?_); clear hK K; try simp only [nA, Nat.reduceBEq, Nat.reduceEqDiff, ↓reduceIte, Nat.reduceAdd, Nat.reduceSub]
  skip
  refine zO ?_; (try simp only [zI, zJ, Nat.reduceEqDiff, ↓reduceIte]); rw [show valC c = 1 by unfold valC; rw [if_pos hc]]; exact zS rfl (.tmp (bl rfl) rfl rfl .nil)
 (try simp only [z7] at hc); have hc1 := hc
 refine zM ?_
 refine hK _ ?_; clear hK K
 refine zA fun K hK => ?_
 refine zA fun K hK => zB ?_
 refine zF (zH rfl rfl rfl fl33_7 (by exact sz31) (by decide) rfl) ?_
 refine awR (zG rfl rfl rfl rfl ag31 rfl rfl) ?_
 refine zF (zX rfl rfl Tryz.underlying31 (by exact .inr (.inl ⟨_, rfl, rfl⟩))) ?_
 refine zF (op_gtr rfl rfl rfl) ?_
 refine zE (hK _ ?_); clear hK K; try simp only [nA, Nat.reduceBEq, Nat.reduceEqDiff, ↓reduceIte, Nat.reduceAdd, Nat.reduceSub]
 refine zL rfl rfl rfl (fun hc => ?_) (fun hc => ?_)
 ·
  (try simp only [z7] at hc); have hc2 := hc
  refine zA fun K hK => zB ?_
  refine zF (zD rfl rfl) ?_
  refine zE (hK _ ?_); clear hK K; try simp only [nA, Nat.reduceBEq, Nat.reduceEqDiff, ↓reduceIte, Nat.reduceAdd, Nat.reduceSub]
  skip
  refine zO ?_; (try simp only [zI, zJ, Nat.reduceEqDiff, ↓reduceIte]); rw [show valC c = 2 by unfold valC; rw [if_neg (by simp [hc1]), if_pos (by omega)]]; exact zS rfl (.tmp (bl rfl) rfl rfl .nil)
 (try simp only [z7] at hc); have hc2 := hc
 refine zM ?_
 refine hK _ ?_; clear hK K
 refine zA fun K hK => ?_
 refine zA fun K hK => zB ?_
 refine zF (zH rfl rfl rfl fl33_7 (by exact sz31) (by decide) rfl) ?_
 refine awR (zG rfl rfl rfl rfl ag31 rfl rfl) ?_
 refine zF (zX rfl rfl Tryz.underlying31 (by exact .inr (.inl ⟨_, rfl, rfl⟩))) ?_
 refine zF (zC rfl rfl) ?_
 refine zE (hK _ ?_); clear hK K; try simp only [nA, Nat.reduceBEq, Nat.reduceEqDiff, ↓reduceIte, Nat.reduceAdd, Nat.reduceSub]
 refine zN ?_
 refine yC (fun i => [(1, .ptr 0 1 0 0), (13, .ro (c.pieces.map Piece.av)), (14, .v (.int .i64 c.pieces.length)), (15, .v (.int .i64 (i : Nat)))]) (fun i => ⟨[(1, .own 33 [c.av])], 2 + i⟩) (fun i => i ≤ c.pieces.length ∧ ∀ k, k < i → errI c.pieces k = 0) (fun i => c.pieces.length - i) 0 (by simp) ⟨rfl, rfl, rfl, rfl, trivial⟩ rfl ?_; intro i ρ hi; simp only [updL]
 refine zA fun K hK => zB ?_
 refine zF (yP rfl rfl rfl) ?_
 refine zE (hK _ ?_); clear hK K; try simp only [nA, Nat.reduceBEq, Nat.reduceEqDiff, ↓reduceIte, Nat.reduceAdd, Nat.reduceSub]
 refine zA fun K hK => ?_
 refine zL rfl rfl rfl (fun hc => ?_) (fun hc => ?_)
 ·
  (try simp only [z7] at hc); have hc3 := hc
  refine zM ?_
  refine hK _ ?_; clear hK K
  refine zA fun K hK => zN ?_
  refine zA fun K hK => zB ?_
  refine zF (zC rfl rfl) ?_
  refine zF (zW _ rfl (.inl rfl) rfl Tryz.underlying31 rfl (get_map (by omega)) (by exact yR) (bl rfl)) ?_
  refine awR (zY rfl rfl ag35 yR (bl rfl) (by decide) rfl) ?_
  refine yD (op_alloc rfl ze35 rfl) ?_; simp only [nA, ↓reduceIte]
  refine zF (zD rfl rfl) ?_
  refine yD (z8 rfl rfl rfl rfl rfl rfl yR rfl (bl rfl) rfl) ?_; simp only [nA, Nat.reduceBEq, Nat.reduceEqDiff, ↓reduceIte]
  refine zE (hK _ ?_); clear hK K
  refine zA fun K hK => ?_
  refine zA fun K hK => zB ?_
  refine awR (zK rfl rfl rfl rfl ag35 yR (bl rfl) rfl) ?_
  refine yD (OpQ.j (zT (b := true) rfl en76 (C76) (RL.cons (by exact View.same rfl) (RL.nil)) rfl)) ?_; try simp only [nA, Nat.reduceBEq, Nat.reduceEqDiff, ↓reduceIte, Nat.reduceAdd, Nat.reduceSub]
  refine zF (op_not rfl rfl rfl) ?_
  refine zE (hK _ ?_); clear hK K; try simp only [nA, Nat.reduceBEq, Nat.reduceEqDiff, ↓reduceIte, Nat.reduceAdd, Nat.reduceSub]
  refine zL rfl rfl rfl (fun hc => ?_) (fun hc => ?_)
  ·
   (try simp only [z7] at hc); have hc4 := hc
   refine zA fun K hK => zB ?_
   refine zF (zD rfl rfl) ?_
   refine zE (hK _ ?_); clear hK K; try simp only [nA, Nat.reduceBEq, Nat.reduceEqDiff, ↓reduceIte, Nat.reduceAdd, Nat.reduceSub]
   skip
   refine zO ?_; (try simp only [zI, zJ, Nat.reduceEqDiff, ↓reduceIte]); rw [val_err (e := 1) hc1 (by omega) (i := i) (by omega) hi.2 (by rw [errI_at (by omega), if_pos hc4]) (by decide)]; exact zS rfl (.tmp (bl rfl) rfl rfl .nil)
  (try simp only [z7] at hc); have hc4 := hc
  refine zM ?_
  refine hK _ ?_; clear hK K
  refine zA fun K hK => ?_
  refine zA fun K hK => zB ?_
  refine zF (zC rfl rfl) ?_
  refine zF (op_eql rfl rfl rfl) ?_
  refine zE (hK _ ?_); clear hK K; simp only [nA, ↓reduceIte]
  refine zL rfl rfl rfl (fun hc => ?_) (fun hc => ?_)
  ·
   (try simp only [z7] at hc); have hc5 := hc
   refine yE ?_; try simp only [zI, zJ, Nat.reduceEqDiff, ↓reduceIte]
   clear hK K
   refine hK _ ?_; clear hK K
   refine zB ?_
   refine zF (zR rfl rfl rfl (by omega)) ?_
   refine zF (zC rfl rfl) ?_
   refine AWL.gh (Gh.drop 1) ?_; simp only [nA]
   refine zE ?_
   refine ⟨i + 1, ⟨by omega, all_step hi.2 (by rw [errI_at (by omega), if_neg (by simp [hc4]), if_pos (by omega)])⟩, by omega, ⟨rfl, rfl, rfl, rfl, trivial⟩, rfl, rfl⟩
  (try simp only [z7] at hc); have hc5 := hc
  refine zM ?_
  refine hK _ ?_; clear hK K
  refine zA fun K hK => ?_
  refine AW.quiet mix (by kernel_rfl) ?_
  refine zQ (zH rfl rfl rfl fl33_7 (by exact sz31) (by decide) rfl) ?_
  refine aqR (zG rfl rfl rfl rfl ag31 rfl rfl) ?_
  refine zQ (zC rfl rfl) ?_
  refine zQ (op_subi rfl rfl rfl (by omega)) ?_
  refine zQ (zW (i - 1) rfl (.inl rfl) rfl Tryz.underlying31 (by omega) (get_map (by omega)) (by exact yR) (bl rfl)) ?_
  refine zQ (yM rfl rfl fl35_0 (by exact sz23) (by decide) (bl rfl) rfl) ?_
  refine aqR (zY rfl rfl ag23 sz23 (bl rfl) (by decide) rfl) ?_
  refine zQ (zH rfl rfl rfl fl35_0 (by exact sz23) (by decide) rfl) ?_
  refine aqR (zK rfl rfl rfl rfl ag23 sz23 (bl rfl) rfl) ?_
  refine aqQ (zT (b := true) rfl en49 (C49) (RL.cons (by exact View.same rfl) (RL.cons (by exact View.same rfl) (RL.nil))) rfl) ?_; simp only [nA, ↓reduceIte]
  refine yN (hK _ ?_); clear hK K
  refine zN ?_
  refine zA fun K hK => zB ?_
  refine zF (op_eql rfl rfl rfl) ?_
  refine zF (zD rfl rfl) ?_
  refine zE (hK _ ?_); clear hK K; simp only [nA]
  refine zL rfl rfl rfl (fun hc => ?_) (fun hc => ?_)
  ·
   (try simp only [z7] at hc); have hc6 := hc
   refine zA fun K hK => zB ?_
   refine zF (zD rfl rfl) ?_
   refine zE (hK _ ?_); clear hK K; try simp only [nA, Nat.reduceBEq, Nat.reduceEqDiff, ↓reduceIte, Nat.reduceAdd, Nat.reduceSub]
   skip
   refine zO ?_; (try simp only [zI, zJ, Nat.reduceEqDiff, ↓reduceIte]); rw [val_err (e := 5) hc1 (by omega) (i := i) (by omega) hi.2 (by rw [errI_at (by omega), if_neg (by simp [hc4]), if_neg (by omega), if_pos hc6]) (by decide)]; exact zS rfl (.tmp (bl rfl) rfl rfl .nil)
  (try simp only [z7] at hc); have hc6 := hc
  refine zA fun K hK => zB ?_
  refine zF (op_eql rfl rfl rfl) ?_
  refine zF (zD rfl rfl) ?_
  refine zE (hK _ ?_); clear hK K; simp only [nA]
  refine zL rfl rfl rfl (fun hc => ?_) (fun hc => ?_)
  ·
   (try simp only [z7] at hc); have hc7 := hc
   refine zA fun K hK => zB ?_
   refine zF (zD rfl rfl) ?_
   refine zE (hK _ ?_); clear hK K; try simp only [nA, Nat.reduceBEq, Nat.reduceEqDiff, ↓reduceIte, Nat.reduceAdd, Nat.reduceSub]
   skip
   refine zO ?_; (try simp only [zI, zJ, Nat.reduceEqDiff, ↓reduceIte]); rw [val_err (e := 9) hc1 (by omega) (i := i) (by omega) hi.2 (by rw [errI_at (by omega), if_neg (by simp [hc4]), if_neg (by omega), if_neg hc6, if_pos hc7]) (by decide)]; exact zS rfl (.tmp (bl rfl) rfl rfl .nil)
  (try simp only [z7] at hc); have hc7 := hc
  refine zM ?_
  (try simp only [zI, zJ, Nat.reduceEqDiff, ↓reduceIte])
  (try simp only [zI, zJ, Nat.reduceEqDiff, ↓reduceIte])
  refine hK _ ?_; clear hK K
  refine zB ?_
  refine zF (zR rfl rfl rfl (by omega)) ?_
  refine zF (zC rfl rfl) ?_
  refine AWL.gh (Gh.drop 1) ?_; simp only [nA]
  refine zE ?_
  refine ⟨i + 1, ⟨by omega, all_step hi.2 (by rw [errI_at (by omega), if_neg (by simp [hc4]), if_neg (by omega), if_neg hc6, if_neg hc7])⟩, by omega, ⟨rfl, rfl, rfl, rfl, trivial⟩, rfl, rfl⟩
 (try simp only [z7] at hc); have hc3 := hc
 refine yE ?_; try simp only [zI, zJ, Nat.reduceEqDiff, ↓reduceIte]
 clear hK K
 refine hK _ ?_; clear hK K
 refine zA fun K hK => zB ?_
 refine zF (zD rfl rfl) ?_
 refine zE (hK _ ?_); clear hK K; try simp only [nA, Nat.reduceBEq, Nat.reduceEqDiff, ↓reduceIte, Nat.reduceAdd, Nat.reduceSub]
 skip
 refine zO ?_; (try simp only [zI, zJ, Nat.reduceEqDiff, ↓reduceIte]); rw [val_ok hc1 (by omega) (i := i) (by omega) hi.2]; exact zS rfl (.tmp (bl rfl) rfl rfl .nil)
set_option maxRecDepth 100000
theorem av_flat (l : List Piece) : ∀ r ∈ l.map Piece.av, ∀ c ∈ r, flatA c = true := fun r hr c hc => by
 obtain ⟨p, _, rfl⟩ := List.mem_map.1 hr
 simp only [Piece.av, List.mem_cons, List.not_mem_nil, or_false] at hc
 rcases hc with rfl | rfl | rfl | rfl | rfl <;> rfl
theorem av_len (l : List Piece) : ∀ x ∈ l.map Piece.av, x.length = 5 := fun x hx => by
 obtain ⟨p, _, rfl⟩ := List.mem_map.1 hx; rfl
theorem C80 {l : List Piece} {i : Nat} {p : Piece} (hi : i ≤ l.length) (hl : l.length ≤ 1000) : Fn Tryz.prog 80 [] [.ro (l.map Piece.av), .v (.int .i64 i), .agg p.av] [.ro ((l.take i ++ p :: l.drop i).map Piece.av)] [] := by
 refine Spec.body Tryz.func80 rfl Tryz.ntmps80 (by simp) rfl ?_; intro S0 own0 v0 w0
 refine zA fun K hK => zB ?_
 refine yD (yO rfl rfl rfl yR rfl) ?_; simp only [nA, Nat.reduceBEq, Nat.reduceEqDiff, ↓reduceIte]
 refine zF (zD rfl rfl) ?_; try simp only [nA, Nat.reduceBEq, Nat.reduceEqDiff, ↓reduceIte, Nat.reduceAdd, Nat.reduceSub]
 refine zE (hK _ ?_); clear hK K; try simp only [nA, Nat.reduceBEq, Nat.reduceEqDiff, ↓reduceIte, Nat.reduceAdd, Nat.reduceSub]
 refine zA fun K hK => zB ?_
 refine zF (zC rfl rfl) ?_; simp only [nA, ↓reduceIte]
 (refine zF (zX rfl rfl Tryz.underlying117 (by exact .inr (.inl ⟨_, rfl, rfl⟩))) ?_); try simp only [nA, Nat.reduceBEq, Nat.reduceEqDiff, ↓reduceIte, Nat.reduceAdd, Nat.reduceSub]
 (refine zF (zR rfl rfl rfl (by omega)) ?_); try simp only [nA, Nat.reduceBEq, Nat.reduceEqDiff, ↓reduceIte, Nat.reduceAdd, Nat.reduceSub]
 refine yD (op_make rfl rfl rfl (n := 0) (c := l.length + 1) rfl rfl (Nat.zero_le _) Tryz.underlying117 ze35 (by omega) (by decide) rfl) ?_; simp only [nA, Nat.reduceBEq, Nat.reduceEqDiff, ↓reduceIte]
 refine zF (zD rfl rfl) ?_; simp only [nA]
 refine zE (hK _ ?_); clear hK K
 refine zA fun K hK => zB ?_
 refine zF (zC rfl rfl) ?_; simp only [nA]
 refine zF (zC rfl rfl) ?_; simp only [nA, ↓reduceIte]
 refine zF (zC rfl rfl) ?_; simp only [nA, ↓reduceIte]
 refine zF (op_slice_ro 0 i rfl (.inl rfl) (by exact rfl) (by exact ⟨_, rfl⟩) (Nat.zero_le _) (by simpa using hi) Tryz.underlying117 yR (av_len l) (es' := (l.take i).map Piece.av) (by simp [List.map_take])) ?_; try simp only [nA, Nat.reduceBEq, Nat.reduceEqDiff, ↓reduceIte, Nat.reduceAdd, Nat.reduceSub]
 refine yD (op_app rfl rfl rfl rfl rfl .ro Tryz.underlying117 ze35 (by decide) (av_len _) (by simp; omega) (by decide) (List.nil_append _) rfl) ?_; simp only [nA, Nat.reduceBEq, Nat.reduceEqDiff, ↓reduceIte]
 refine zF (zD rfl rfl) ?_; simp only [nA]
 refine zE (hK _ ?_); clear hK K
 refine zA fun K hK => zB ?_
 refine zF (zC rfl rfl) ?_; simp only [nA]
 (refine awR (zK rfl rfl rfl rfl ag35 yR (bl rfl) rfl) ?_); try simp only [nA, Nat.reduceBEq, Nat.reduceEqDiff, ↓reduceIte, Nat.reduceAdd, Nat.reduceSub]
 refine yD (zV rfl [(0, p.av)] [p.av] Tryz.underlying117 ze35 rfl (by simp) rfl (by simp) rfl (bl rfl) (by simp [maxLen])) ?_; simp only [nA, Nat.reduceBEq, Nat.reduceEqDiff, ↓reduceIte]
 refine yD (op_app rfl rfl rfl rfl (by simp) (.sl rfl rfl) Tryz.underlying117 ze35 (by decide) (by simp) (by simp; omega) (by decide) (es' := (l.take i ++ [p]).map Piece.av) (by simp [ldc_v]) rfl) ?_; simp only [nA, Nat.reduceBEq, Nat.reduceEqDiff, ↓reduceIte]
 refine zF (zD rfl rfl) ?_; simp only [nA]
 refine zE (hK _ ?_); clear hK K
 refine zA fun K hK => zB ?_
 refine zF (zC rfl rfl) ?_; simp only [nA]
 refine zF (zC rfl rfl) ?_; simp only [nA, ↓reduceIte]
 refine zF (zC rfl rfl) ?_; simp only [nA, ↓reduceIte]
 refine zF (op_slice_ro i l.length rfl (.inl rfl) (by exact ⟨_, rfl⟩) (by simp [bndIs]) hi (by simp) Tryz.underlying117 yR (av_len l) (es' := (l.drop i).map Piece.av) (by rw [List.map_drop, List.take_of_length_le (by simp)])) ?_; try simp only [nA, Nat.reduceBEq, Nat.reduceEqDiff, ↓reduceIte, Nat.reduceAdd, Nat.reduceSub]
 refine yD (op_app rfl rfl rfl rfl (by simp) .ro Tryz.underlying117 ze35 (by decide) (av_len _) (by simp; omega) (by decide) (es' := (l.take i ++ p :: l.drop i).map Piece.av) (by simp) rfl) ?_; simp only [nA, Nat.reduceBEq, Nat.reduceEqDiff, ↓reduceIte]
 refine zF (zD rfl rfl) ?_; simp only [nA]
 refine zE (hK _ ?_); clear hK K
 refine AW.gh (Gh.freeze 6 (bl rfl) rfl rfl (av_flat _) (List.take_of_length_le (by simp; omega))) ?_; try simp only [nA, Nat.reduceBEq, Nat.reduceEqDiff, ↓reduceIte, Nat.reduceAdd, Nat.reduceSub]
 refine zO ?_; (try simp only [zI, zJ, Nat.reduceEqDiff, ↓reduceIte]); exact zS rfl (.tmp (bl rfl) rfl rfl .nil)
def posP (l : List Piece) (p : Plate) : Nat := (l.takeWhile fun x => decide (cmpP x.plate p < 0)).length
instance : Inhabited Piece := ⟨⟨⟨0, 0, 0⟩, 0, 0⟩⟩
theorem yF {α β : Type} [Inhabited α] {f : α → β} {xs : List α} {m : Nat} (h : m < xs.length) : (xs.map f)[m]? = some (f (xs.getD m default)) := by
 rw [List.getD_eq_getElem?_getD]; simp [h]
def foundP (l : List Piece) (p : Plate) : Bool := decide ((posP l p : Int) < (l.length : Int)) && decide ((l.getD (posP l p) default).plate = p)
/-- What lies below a plate lies ahead. -/
def Mono (l : List Piece) (p : Plate) : Prop := ∀ (i j : Nat) (hi : i < l.length) (hj : j < l.length), i ≤ j → cmpP l[j].plate p < 0 → cmpP l[i].plate p < 0
theorem pos_eq {l : List Piece} {p : Plate} {n : Nat} (hn : n ≤ l.length) (h1 : ∀ (i : Nat) (h : i < l.length), i < n → cmpP l[i].plate p < 0) (h2 : ∀ (i : Nat) (h : i < l.length), n ≤ i → ¬ cmpP l[i].plate p < 0) : posP l p = n := by
 unfold posP
 have e : l.takeWhile (fun x => decide (cmpP x.plate p < 0)) = l.take n := by
   conv => lhs; rw [← List.take_append_drop n l]
   rw [List.takeWhile_append_of_pos]
   · have : (l.drop n).takeWhile (fun x => decide (cmpP x.plate p < 0)) = [] := by
       rcases Nat.lt_or_ge n l.length with h | h
       · rw [List.drop_eq_getElem_cons h, List.takeWhile_cons_of_neg (by simpa using h2 n h (Nat.le_refl _))]
       rw [List.drop_eq_nil_of_le h]; rfl
     rw [this, List.append_nil]
   intro x hx
   obtain ⟨i, hi, rfl⟩ := List.getElem_of_mem hx
   simp at hi
   simpa using h1 i (by omega) (by omega)
 rw [e]; simp; omega
theorem pos_le (l : List Piece) (p : Plate) : posP l p ≤ l.length := by
 unfold posP
 exact (List.takeWhile_prefix _).length_le
theorem C77 {l : List Piece} {p : Plate} (hl : l.length ≤ 1000) (hm : Mono l p) : Fn Tryz.prog 77 [] [.ro (l.map Piece.av), .agg p.av] [.v (.int .i64 (posP l p)), .v (.bool (foundP l p))] [] := by
 refine Spec.body Tryz.func77 rfl Tryz.ntmps77 (by simp) rfl ?_; intro S0 own0 v0 w0
 refine zA fun K hK => zB ?_
 refine yD (yO rfl rfl rfl sz23 rfl) ?_; simp only [nA, Nat.reduceBEq, Nat.reduceEqDiff, ↓reduceIte]
 refine zF (zD rfl rfl) ?_; try simp only [nA, Nat.reduceBEq, Nat.reduceEqDiff, ↓reduceIte, Nat.reduceAdd, Nat.reduceSub]
 refine zF (zD rfl rfl) ?_; try simp only [nA, Nat.reduceBEq, Nat.reduceEqDiff, ↓reduceIte, Nat.reduceAdd, Nat.reduceSub]
 refine zE (hK _ ?_); clear hK K; try simp only [nA, Nat.reduceBEq, Nat.reduceEqDiff, ↓reduceIte, Nat.reduceAdd, Nat.reduceSub]
 refine zA fun K hK => zB ?_
 refine zF (zC rfl rfl) ?_; simp only [nA, ↓reduceIte]
 (refine zF (zX rfl rfl Tryz.underlying117 (by exact .inr (.inl ⟨_, rfl, rfl⟩))) ?_); try simp only [nA, Nat.reduceBEq, Nat.reduceEqDiff, ↓reduceIte, Nat.reduceAdd, Nat.reduceSub]
 refine zF (zD rfl rfl) ?_; try simp only [nA, Nat.reduceBEq, Nat.reduceEqDiff, ↓reduceIte, Nat.reduceAdd, Nat.reduceSub]
 refine zF (zD rfl rfl) ?_; simp only [nA, ↓reduceIte]
 refine zE (hK _ ?_); clear hK K
 refine zA fun K hK => zN ?_
 refine yC (fun (q : Nat × Nat) => [(0, .ro (l.map Piece.av)), (3, .ptr 0 1 0 0), (6, .v (.int .i64 (q.1 : Nat))), (7, .v (.int .i64 (q.2 : Nat)))]) (fun q => ⟨[(1, .own 23 [p.av])], 2⟩) (fun q => q.1 ≤ q.2 ∧ q.2 ≤ l.length ∧ (∀ (i : Nat) (h : i < l.length), i < q.1 → cmpP l[i].plate p < 0) ∧ ∀ (i : Nat) (h : i < l.length), q.2 ≤ i → ¬ cmpP l[i].plate p < 0) (fun q => q.2 - q.1) (0, l.length) (by refine ⟨by simp, by simp, by simp, ?_⟩; intro i h h'; simp at h'; omega) ⟨rfl, rfl, rfl, rfl, trivial⟩ rfl ?_; rintro ⟨lo, hi⟩ ρ hI; simp only at hI; simp only [updL]
 refine zA fun K hK => ?_
 refine zA fun K hK => zB ?_
 refine zF (zC rfl rfl) ?_; simp only [nA, ↓reduceIte]
 refine zF (zC rfl rfl) ?_; simp only [nA, ↓reduceIte]
 refine zF (yP rfl rfl rfl) ?_; try simp only [nA, Nat.reduceBEq, Nat.reduceEqDiff, ↓reduceIte, Nat.reduceAdd, Nat.reduceSub]
 refine zE (hK _ ?_); clear hK K
 refine zL rfl rfl rfl (fun hc => ?_) (fun hc => ?_)
 ·
  (try simp only [z7] at hc); have hc1 := hc
  refine zM ?_
  refine hK _ ?_; clear hK K
  refine zN ?_
  refine zA fun K hK => zB ?_
  refine zF (zC rfl rfl) ?_; simp only [nA, ↓reduceIte]
  refine zF (zC rfl rfl) ?_; simp only [nA, ↓reduceIte]
  (refine zF (zR rfl rfl rfl (by omega)) ?_); try simp only [nA, Nat.reduceBEq, Nat.reduceEqDiff, ↓reduceIte, Nat.reduceAdd, Nat.reduceSub]
  (refine zF (op_quoi rfl rfl rfl (by omega)) ?_); try simp only [nA, Nat.reduceBEq, Nat.reduceEqDiff, ↓reduceIte, Nat.reduceAdd, Nat.reduceSub]
  refine zF (zD rfl rfl) ?_; simp only [nA]
  refine zE (hK _ ?_); clear hK K
  refine zA fun K hK => ?_
  refine AW.quiet mix (by kernel_rfl) ?_
  refine zQ (zC rfl rfl) ?_; simp only [nA, ↓reduceIte]
  refine zQ (zC rfl rfl) ?_; simp only [nA, ↓reduceIte]
  (refine zQ (zW ((lo + hi) / 2) rfl (.inl rfl) rfl Tryz.underlying117 (by omega) (get_map (by omega)) (by exact sz34) (bl rfl)) ?_); try simp only [nA, Nat.reduceBEq, Nat.reduceEqDiff, ↓reduceIte, Nat.reduceAdd, Nat.reduceSub]
  (refine zQ (yM rfl rfl fl35_0 (by exact sz23) (by decide) (bl rfl) rfl) ?_); try simp only [nA, Nat.reduceBEq, Nat.reduceEqDiff, ↓reduceIte, Nat.reduceAdd, Nat.reduceSub]
  (refine aqR (zY rfl rfl ag23 sz23 (bl rfl) (by decide) rfl) ?_); try simp only [nA, Nat.reduceBEq, Nat.reduceEqDiff, ↓reduceIte, Nat.reduceAdd, Nat.reduceSub]
  (refine aqR (zK rfl rfl rfl rfl ag23 sz23 (bl rfl) rfl) ?_); try simp only [nA, Nat.reduceBEq, Nat.reduceEqDiff, ↓reduceIte, Nat.reduceAdd, Nat.reduceSub]
  refine aqQ (zT (b := true) rfl en49 (C49) (RL.cons (by exact View.same rfl) (RL.cons (by exact View.same rfl) (RL.nil))) rfl) ?_; try simp only [nA, Nat.reduceBEq, Nat.reduceEqDiff, ↓reduceIte, Nat.reduceAdd, Nat.reduceSub]
  refine zQ (yP rfl rfl rfl) ?_; try simp only [nA, Nat.reduceBEq, Nat.reduceEqDiff, ↓reduceIte, Nat.reduceAdd, Nat.reduceSub]
  refine yN (hK _ ?_); clear hK K
  refine zL rfl rfl rfl (fun hc => ?_) (fun hc => ?_)
  ·
   (try simp only [z7] at hc); have hc2 := hc
   refine zB ?_
   refine zF (zC rfl rfl) ?_; simp only [nA, ↓reduceIte]
   (refine zF (zR rfl rfl rfl (by omega)) ?_); try simp only [nA, Nat.reduceBEq, Nat.reduceEqDiff, ↓reduceIte, Nat.reduceAdd, Nat.reduceSub]
   refine zF (zD rfl rfl) ?_; simp only [nA]
   refine zE ?_
   (try simp only [zI, zJ, Nat.reduceEqDiff, ↓reduceIte])
   refine ⟨((lo + hi) / 2 + 1, hi), ⟨by dsimp only; omega, hI.2.1, fun i h h' => hm i ((lo + hi) / 2) h (by omega) (by dsimp only at h'; omega) hc, hI.2.2.2⟩, by dsimp only; omega, ⟨rfl, rfl, rfl, rfl, trivial⟩, (by trivial), (by trivial)⟩
  (try simp only [z7] at hc); have hc2 := hc
  refine zB ?_
  refine zF (zC rfl rfl) ?_; simp only [nA, ↓reduceIte]
  refine zF (zD rfl rfl) ?_; simp only [nA]
  refine zE ?_
  (try simp only [zI, zJ, Nat.reduceEqDiff, ↓reduceIte])
  refine ⟨(lo, (lo + hi) / 2), ⟨by dsimp only; omega, by dsimp only; omega, hI.2.2.1, fun i h h' hlt => by have := hm ((lo + hi) / 2) i (by omega) h h' hlt; omega⟩, by dsimp only; omega, ⟨rfl, rfl, rfl, rfl, trivial⟩, (by trivial), (by trivial)⟩
 (try simp only [z7] at hc); have hc1 := hc
 refine yE ?_; try simp only [zI, zJ, Nat.reduceEqDiff, ↓reduceIte]
 clear hK K
 refine hK _ ?_; clear hK K
 refine zA fun K hK => ?_
 refine AW.quiet mix (by kernel_rfl) ?_
 refine zQ (zC rfl rfl) ?_; simp only [nA, ↓reduceIte]
 refine zQ (zC rfl rfl) ?_; simp only [nA, ↓reduceIte]
 refine zQ (zC rfl rfl) ?_; simp only [nA, ↓reduceIte]
 (refine zQ (zX rfl rfl Tryz.underlying117 (by exact .inr (.inl ⟨_, rfl, rfl⟩))) ?_); try simp only [nA, Nat.reduceBEq, Nat.reduceEqDiff, ↓reduceIte, Nat.reduceAdd, Nat.reduceSub]
 refine zQ (yP rfl rfl rfl) ?_; try simp only [nA, Nat.reduceBEq, Nat.reduceEqDiff, ↓reduceIte, Nat.reduceAdd, Nat.reduceSub]
 refine zQ (zC rfl rfl) ?_; simp only [nA]
 refine' yK [_, _, _, _, _, _, _] [35,36,37,38,39,40,41] rfl rfl rfl rfl rfl rfl rfl rfl rfl rfl rfl rfl (fun hb => ?_) ?_; rotate_left
 ·
  (try simp only [z7] at hb)
  refine zQ (zC rfl rfl) ?_; simp only [nA, ↓reduceIte]
  refine zQ (zC rfl rfl) ?_; simp only [nA, ↓reduceIte]
  (refine zQ (zW lo rfl (.inl rfl) rfl Tryz.underlying117 rfl (yF (by omega)) (by exact sz34) (bl rfl)) ?_); try simp only [nA, Nat.reduceBEq, Nat.reduceEqDiff, ↓reduceIte, Nat.reduceAdd, Nat.reduceSub]
  (refine zQ (yM rfl rfl fl35_0 (by exact sz23) (by decide) (bl rfl) rfl) ?_); try simp only [nA, Nat.reduceBEq, Nat.reduceEqDiff, ↓reduceIte, Nat.reduceAdd, Nat.reduceSub]
  (refine aqR (zY rfl rfl ag23 sz23 (bl rfl) (by decide) rfl) ?_); try simp only [nA, Nat.reduceBEq, Nat.reduceEqDiff, ↓reduceIte, Nat.reduceAdd, Nat.reduceSub]
  (refine aqR (zK rfl rfl rfl rfl ag23 sz23 (bl rfl) rfl) ?_); try simp only [nA, Nat.reduceBEq, Nat.reduceEqDiff, ↓reduceIte, Nat.reduceAdd, Nat.reduceSub]
  refine zQ (op_eq23 rfl rfl rfl) ?_; try simp only [nA, Nat.reduceBEq, Nat.reduceEqDiff, ↓reduceIte, Nat.reduceAdd, Nat.reduceSub]
  (refine yL rfl rfl rfl ?_; repeat (first | exact fun _ _ => rfl | refine zU rfl ?_))
 refine zQ (zD rfl rfl) ?_; simp only [nA, Nat.reduceEqDiff, ↓reduceIte]
 refine zQ (zD rfl rfl) ?_; simp only [nA, ↓reduceIte]
 refine yN (hK _ ?_); clear hK K
 skip
 refine zO ?_; (try simp only [zI, zJ, Nat.reduceEqDiff, ↓reduceIte]); have hp : posP l p = lo := pos_eq (by omega) hI.2.2.1 (fun i h h' => hI.2.2.2 i h (by omega)); rw [show foundP l p = (decide ((lo : Int) < (l.length : Int)) && decide ((l.getD lo default).plate = p)) by unfold foundP; rw [hp], hp]; exact zS rfl (.tmp (bl rfl) rfl rfl (.tmp (bl rfl) rfl rfl .nil))
set_option maxRecDepth 100000
def PLt (p q : Plate) : Prop := p.lead < q.lead ∨ (p.lead = q.lead ∧ (p.airline < q.airline ∨ (p.airline = q.airline ∧ p.serial < q.serial)))
theorem or3 (a b c : Int) : orL [a, b, c] = if a ≠ 0 then a else if b ≠ 0 then b else c := by
 unfold orL
 by_cases h1 : a = 0 <;> by_cases h2 : b = 0 <;> by_cases h3 : c = 0 <;> simp [h1, h2, h3]
theorem cmpI_cases (a b : Int) : (a < b ∧ cmpI a b = -1) ∨ (a = b ∧ cmpI a b = 0) ∨ (b < a ∧ cmpI a b = 1) := by
 unfold cmpI
 by_cases h1 : a < b
 · rw [if_pos h1]; exact .inl ⟨h1, rfl⟩
 rw [if_neg h1]
 by_cases h2 : a > b
 · rw [if_pos h2]; exact .inr (.inr ⟨h2, rfl⟩)
 rw [if_neg h2]; exact .inr (.inl ⟨by omega, rfl⟩)
theorem cmpP_cases (p q : Plate) : (PLt p q ∧ cmpP p q = -1) ∨ (p = q ∧ cmpP p q = 0) ∨ (PLt q p ∧ cmpP p q = 1) := by
 obtain ⟨a, b, c⟩ := p
 obtain ⟨a', b', c'⟩ := q
 unfold cmpP PLt
 rw [or3]
 simp only [Plate.mk.injEq]
 rcases cmpI_cases a a' with ⟨h1, e1⟩ | ⟨h1, e1⟩ | ⟨h1, e1⟩ <;> rcases cmpI_cases b b' with ⟨h2, e2⟩ | ⟨h2, e2⟩ | ⟨h2, e2⟩ <;> rcases cmpI_cases c c' with ⟨h3, e3⟩ | ⟨h3, e3⟩ | ⟨h3, e3⟩ <;> simp [e1, e2, e3] <;> omega
theorem PLt.trans {p q r : Plate} (h : PLt p q) (h' : PLt q r) : PLt p r := by unfold PLt at *; omega
theorem PLt.irrefl (p : Plate) : ¬ PLt p p := by unfold PLt; omega
theorem cmpP_lt {p q : Plate} : cmpP p q < 0 ↔ PLt p q := by
 rcases cmpP_cases p q with ⟨h, e⟩ | ⟨h, e⟩ | ⟨h, e⟩
 · simp [h, e]
 · subst h; simp [e, PLt.irrefl]
 rw [e]; exact ⟨fun h => by omega, fun h' => absurd (h.trans h') (PLt.irrefl _)⟩
/-- Ascending by the plates. -/
def Asc (l : List Piece) : Prop := ∀ (i j : Nat) (hi : i < l.length) (hj : j < l.length), i < j → PLt l[i].plate l[j].plate
theorem Asc.of_next {l : List Piece} (h : ∀ (i : Nat) (hi : i + 1 < l.length), PLt l[i].plate l[i + 1].plate) : Asc l := by
 intro i j hi hj hij
 induction j with
 | zero => omega
 | succ j ih =>
   by_cases e : i = j
   · subst e; exact h i hj
   exact (ih (by omega) (by omega)).trans (h j hj)
theorem Asc.mono {l : List Piece} (h : Asc l) (q : Plate) : Mono l q := fun i j hi hj hij hlt => by
 rw [cmpP_lt] at *
 by_cases e : i = j
 · subst e; exact hlt
 exact (h i j hi hj (by omega)).trans hlt
theorem val_inv {c : Container} (h : valC c = 0) : coB c = true ∧ c.pieces.length ≤ 60 ∧ (∀ p ∈ c.pieces, piB p = true) ∧ Asc c.pieces := by
 unfold valC at h
 split at h
 · cases h
 split at h
 · cases h
 rename_i h1 h2
 have hz : ∀ k, k < c.pieces.length → errI c.pieces k = 0 := by
   unfold valP orL at h
   intro k hk
   cases hf : ((List.range c.pieces.length).map (errI c.pieces)).find? (fun x => decide (x ≠ 0)) with
   | none =>
     have := List.find?_eq_none.1 hf (errI c.pieces k) (List.mem_map_of_mem (List.mem_range.2 hk))
     simpa using this
   | some x =>
     rw [hf] at h
     have := List.find?_some hf
     simp only [Option.getD_some] at h
     simp [h] at this
 have hp : ∀ k (hk : k < c.pieces.length), piB c.pieces[k] = true := fun k hk => by
   have := hz k hk
   rw [errI_at hk] at this
   split at this
   · cases this
   rename_i h; simpa using h
 refine ⟨by simpa using h1, by omega, fun p hp' => ?_, Asc.of_next fun i hi => ?_⟩
 · obtain ⟨k, hk, rfl⟩ := List.getElem_of_mem hp'
   exact hp k hk
 have := hz (i + 1) hi
 rw [errI_at hi, if_neg (by simp [hp (i + 1) hi]), if_neg (by omega)] at this
 simp only [Nat.add_sub_cancel] at this
 rcases cmpP_cases c.pieces[i].plate c.pieces[i + 1].plate with ⟨h, e⟩ | ⟨h, e⟩ | ⟨h, e⟩
 · exact h
 · rw [if_pos e] at this; cases this
 rw [if_neg (by omega), if_pos e] at this; cases this
theorem piB_inv {p : Piece} (h : piB p = true) : plB p.plate = true ∧ 1 ≤ p.weight ∧ p.weight ≤ 999 ∧ 0 ≤ p.category ∧ p.category ≤ 4 := by
 unfold piB inB at h
 simp only [Bool.and_eq_true, decide_eq_true_eq, ge_iff_le] at h
 exact ⟨h.1.1, by omega, by omega, by omega, by omega⟩
theorem val_w {c : Container} (h : valC c = 0) : ∀ p ∈ c.pieces, 0 ≤ p.weight ∧ p.weight ≤ 1000 := fun p hp => by
 have := piB_inv ((val_inv h).2.2.1 p hp); omega
set_option maxRecDepth 100000
theorem pl25 : plIs Tryz.prog 25 [(0, 1), (1, 1), (2, 1), (3, 1)] := ⟨_, Tryz.underlying25, by kernel_rfl⟩
theorem pl33 : plIs Tryz.prog 33 [(0, 1), (1, 4), (5, 1), (6, 1), (7, 1), (8, 1), (9, 1), (10, 1)] := ⟨_, Tryz.underlying33, by kernel_rfl⟩
theorem pl23 : plIs Tryz.prog 23 [(0, 1), (1, 1), (2, 1)] := ⟨_, Tryz.underlying23, by kernel_rfl⟩
theorem pl35 : plIs Tryz.prog 35 [(0, 3), (3, 1), (4, 1)] := ⟨_, Tryz.underlying35, by kernel_rfl⟩
theorem pl67 : plIs Tryz.prog 67 [(0, 1), (1, 1)] := ⟨_, Tryz.underlying67, by kernel_rfl⟩
theorem pl99 : plIs Tryz.prog 99 [(0, 4), (4, 1)] := ⟨_, Tryz.underlying99, by kernel_rfl⟩
abbrev zeroC : Container := ⟨0, ⟨⟨#[]⟩, 0, ⟨#[]⟩, 0⟩, 0, 0, 0, 0, 0, []⟩
theorem zero_le : RL Le1 ([[AV.v (.int .i64 0), .v (.string ⟨#[]⟩), .v (.int .i64 0), .v (.string ⟨#[]⟩), .v (.int .i64 0), .v (.int .i64 0), .v (.int .i64 0), .v (.int .i64 0), .v (.int .i64 0), .v (.int .i64 0), .v (.slice none 0 0)]] : List (List AV)).flatten [zeroC.av].flatten := by
 refine ⟨rfl, fun i u x hu hx => ?_⟩
 rcases i with _ | _ | _ | _ | _ | _ | _ | _ | _ | _ | _ | i <;> simp at hu hx <;> subst hu <;> subst hx <;> first | exact .same | exact .nil
def fullB (c : Container) (p : Piece) : Bool := decide ((c.pieces.length : Int) ≥ c.most) || decide (sumW c.pieces + p.weight > c.limit)
def insC (c : Container) (p : Piece) : Container := { c with pieces := c.pieces.take (posP c.pieces p.plate) ++ p :: c.pieces.drop (posP c.pieces p.plate) }
def putC (c : Container) (p : Piece) (lim : Bool) : Container × Int :=
 if valC c ≠ 0 then (zeroC, valC c) else if piB p = false then (zeroC, 1) else if foundP c.pieces p.plate = true then (zeroC, 5)
 else if (lim && !bitB c.categories p.category) = true then (zeroC, 4) else if (lim && fullB c p) = true then (zeroC, 8)
 else if (c.pieces.length : Int) ≥ 60 then (zeroC, 2) else (insC c p, 0)
theorem C54 {c : Container} {p : Piece} {lim : Bool} : Fn Tryz.prog 54 [] [.agg c.av, .agg p.av, .v (.bool lim)] [.agg (putC c p lim).1.av, .v (.int .i64 (putC c p lim).2)] [] := by
 refine Spec.body Tryz.func54 rfl Tryz.ntmps54 (by simp) rfl ?_; intro S0 own0 v0 w0
 refine zA fun K hK => zB ?_
 refine yD (yO rfl rfl rfl yH rfl) ?_; simp only [nA, Nat.reduceBEq, Nat.reduceEqDiff, ↓reduceIte]
 refine yD (yO rfl rfl rfl yR rfl) ?_; simp only [nA, Nat.reduceBEq, Nat.reduceEqDiff, ↓reduceIte]
 refine yD (op_alloc rfl ze33 rfl) ?_; simp only [nA, Nat.reduceBEq, Nat.reduceEqDiff, ↓reduceIte]
 refine zF (zD rfl rfl) ?_
 refine zE (hK _ ?_); clear hK K; try simp only [nA, Nat.reduceBEq, Nat.reduceEqDiff, ↓reduceIte, Nat.reduceAdd, Nat.reduceSub]
 refine zA fun K hK => ?_
 refine zA fun K hK => zB ?_
 refine awR (zK rfl rfl rfl rfl ag33 yH (bl rfl) rfl) ?_
 refine yD (OpQ.j (zT (b := true) rfl en60 (C60) (RL.cons (by exact View.same rfl) (RL.nil)) rfl)) ?_; try simp only [nA, Nat.reduceBEq, Nat.reduceEqDiff, ↓reduceIte, Nat.reduceAdd, Nat.reduceSub]
 refine zF (zD rfl rfl) ?_
 refine zE (hK _ ?_); clear hK K; simp only [nA]
 refine zA fun K hK => zB ?_
 refine zF (zC rfl rfl) ?_
 refine zF (op_neq rfl rfl rfl) ?_
 refine zE (hK _ ?_); clear hK K; simp only [nA]
 refine zL rfl rfl rfl (fun hc => ?_) (fun hc => ?_)
 ·
  (try simp only [z7] at hc); have hc1 := hc
  refine zA fun K hK => zB ?_
  refine zF (op_build2 (xs := [.v (.int .i64 0), .v (.string ⟨#[]⟩), .v (.int .i64 0), .v (.string ⟨#[]⟩), .v (.int .i64 0), .v (.int .i64 0), .v (.int .i64 0), .v (.int .i64 0), .v (.int .i64 0), .v (.int .i64 0), .v (.slice none 0 0)]) rfl pl33 ze33 [] rfl rfl rfl) ?_
  refine zF (zC rfl rfl) ?_
  refine yD (z8 rfl rfl rfl rfl rfl rfl yH rfl (bl rfl) rfl) ?_; simp only [nA, Nat.reduceBEq, Nat.reduceEqDiff, ↓reduceIte]
  refine zF (zD rfl rfl) ?_
  refine zE (hK _ ?_); clear hK K; simp only [nA]
  refine AW.gh (Gh.slot (r := 2) (es' := [zeroC.av]) rfl rfl zero_le) ?_; try simp only [nA, Nat.reduceBEq, Nat.reduceEqDiff, ↓reduceIte, Nat.reduceAdd, Nat.reduceSub]
  refine zO ?_; (try simp only [zI, zJ, Nat.reduceEqDiff, ↓reduceIte]); have he : putC c p lim = (zeroC, valC c) := (by unfold putC; rw [if_pos (by simpa using hc)]); rw [he]; exact zS rfl (.cell (bl rfl) rfl rfl rfl ag33 yH (bl rfl) rfl rfl (.tmp (bl rfl) rfl rfl .nil))
 (try simp only [z7] at hc); have hc1 := hc; have hv := val_inv (c := c) (by simpa using hc1); have hvw := val_w (c := c) (by simpa using hc1); have hsb := sum_bd _ hvw
 refine zM ?_
 refine hK _ ?_; clear hK K
 refine zA fun K hK => ?_
 refine zA fun K hK => zB ?_
 refine awR (zK rfl rfl rfl rfl ag35 yR (bl rfl) rfl) ?_
 refine yD (OpQ.j (zT (b := true) rfl en76 (C76) (RL.cons (by exact View.same rfl) (RL.nil)) rfl)) ?_; try simp only [nA, Nat.reduceBEq, Nat.reduceEqDiff, ↓reduceIte, Nat.reduceAdd, Nat.reduceSub]
 refine zF (op_not rfl rfl rfl) ?_
 refine zE (hK _ ?_); clear hK K; try simp only [nA, Nat.reduceBEq, Nat.reduceEqDiff, ↓reduceIte, Nat.reduceAdd, Nat.reduceSub]
 refine zL rfl rfl rfl (fun hc => ?_) (fun hc => ?_)
 ·
  (try simp only [z7] at hc); have hc2 := hc
  refine zA fun K hK => zB ?_
  refine zF (op_build2 (xs := [.v (.int .i64 0), .v (.string ⟨#[]⟩), .v (.int .i64 0), .v (.string ⟨#[]⟩), .v (.int .i64 0), .v (.int .i64 0), .v (.int .i64 0), .v (.int .i64 0), .v (.int .i64 0), .v (.int .i64 0), .v (.slice none 0 0)]) rfl pl33 ze33 [] rfl rfl rfl) ?_
  refine yD (z8 rfl rfl rfl rfl rfl rfl yH rfl (bl rfl) rfl) ?_; simp only [nA, Nat.reduceBEq, Nat.reduceEqDiff, ↓reduceIte]
  refine zF (zD rfl rfl) ?_
  refine zE (hK _ ?_); clear hK K; try simp only [nA, Nat.reduceBEq, Nat.reduceEqDiff, ↓reduceIte, Nat.reduceAdd, Nat.reduceSub]
  refine AW.gh (Gh.slot (r := 2) (es' := [zeroC.av]) rfl rfl zero_le) ?_; try simp only [nA, Nat.reduceBEq, Nat.reduceEqDiff, ↓reduceIte, Nat.reduceAdd, Nat.reduceSub]
  refine zO ?_; (try simp only [zI, zJ, Nat.reduceEqDiff, ↓reduceIte]); have he : putC c p lim = (zeroC, 1) := (by unfold putC; rw [if_neg (by simpa using hc1), if_pos (by simpa using hc)]); rw [he]; exact zS rfl (.cell (bl rfl) rfl rfl rfl ag33 yH (bl rfl) rfl rfl (.tmp (bl rfl) rfl rfl .nil))
 (try simp only [z7] at hc); have hc2 := hc; have hpi := piB_inv (p := p) (by simpa using hc2)
 refine zM ?_
 refine hK _ ?_; clear hK K
 refine zA fun K hK => zB ?_
 refine zF (zH rfl rfl rfl fl33_7 (by exact sz31) (by decide) rfl) ?_
 refine awR (zG rfl rfl rfl rfl ag31 rfl rfl) ?_
 refine zF (zD rfl rfl) ?_
 refine zE (hK _ ?_); clear hK K; simp only [nA]
 refine zA fun K hK => zB ?_
 refine zF (zC rfl rfl) ?_
 refine zF (zH rfl rfl rfl fl35_0 (by exact sz23) (by decide) rfl) ?_
 refine awR (zK rfl rfl rfl rfl ag23 sz23 (bl rfl) rfl) ?_
 refine yD (op_call (b := false) rfl en77 (C77 (l := c.pieces) (p := p.plate) (by omega) (hv.2.2.2.mono _)) (RL.cons (by exact View.same rfl) (RL.cons (by exact View.same rfl) (RL.nil))) rfl (fun h => by cases h) rfl rfl) ?_; simp only [nA]
 refine zF (zC rfl rfl) ?_
 refine zF (z6 rfl rfl rfl) ?_
 refine zF (z6 rfl rfl rfl) ?_
 refine zF (zD rfl rfl) ?_
 refine zF (zD rfl rfl) ?_
 refine zE (hK _ ?_); clear hK K; simp only [nA, ↓reduceIte]
 refine zA fun K hK => zN ?_
 refine zA fun K hK => zB ?_
 refine zF (zC rfl rfl) ?_
 refine zF (zD rfl rfl) ?_
 refine zE (hK _ ?_); clear hK K; simp only [nA]
 refine zL rfl rfl rfl (fun hc => ?_) (fun hc => ?_)
 ·
  (try simp only [z7] at hc); have hc3 := hc
  refine zA fun K hK => zB ?_
  refine zF (op_build2 (xs := [.v (.int .i64 0), .v (.string ⟨#[]⟩), .v (.int .i64 0), .v (.string ⟨#[]⟩), .v (.int .i64 0), .v (.int .i64 0), .v (.int .i64 0), .v (.int .i64 0), .v (.int .i64 0), .v (.int .i64 0), .v (.slice none 0 0)]) rfl pl33 ze33 [] rfl rfl rfl) ?_
  refine yD (z8 rfl rfl rfl rfl rfl rfl yH rfl (bl rfl) rfl) ?_; simp only [nA, Nat.reduceBEq, Nat.reduceEqDiff, ↓reduceIte]
  refine zF (zD rfl rfl) ?_
  refine zE (hK _ ?_); clear hK K; try simp only [nA, Nat.reduceBEq, Nat.reduceEqDiff, ↓reduceIte, Nat.reduceAdd, Nat.reduceSub]
  refine AW.gh (Gh.slot (r := 2) (es' := [zeroC.av]) rfl rfl zero_le) ?_; try simp only [nA, Nat.reduceBEq, Nat.reduceEqDiff, ↓reduceIte, Nat.reduceAdd, Nat.reduceSub]
  refine zO ?_; (try simp only [zI, zJ, Nat.reduceEqDiff, ↓reduceIte]); have he : putC c p lim = (zeroC, 5) := (by unfold putC; rw [if_neg (by simpa using hc1), if_neg (by simpa using hc2), if_pos (by simpa using hc)]); rw [he]; exact zS rfl (.cell (bl rfl) rfl rfl rfl ag33 yH (bl rfl) rfl rfl (.tmp (bl rfl) rfl rfl .nil))
 (try simp only [z7] at hc); have hc3 := hc
 refine zA fun K hK => zB (yS ?_)
 refine zQ (zC rfl rfl) ?_
 refine zQ (zC rfl rfl) ?_
 refine' yK [_, _, _, _, _] [37,38,39,40,41] rfl rfl rfl rfl rfl rfl rfl rfl rfl rfl rfl rfl (fun hb => ?_) ?_; rotate_left
 ·
  (try simp only [z7] at hb)
  refine aqR (zK rfl rfl rfl rfl ag33 yH (bl rfl) rfl) ?_
  refine zQ (zH rfl rfl rfl fl35_2 (by exact sz3) (by decide) rfl) ?_
  refine aqR (zG rfl rfl rfl rfl ag3 rfl rfl) ?_
  refine aqQ (zT (b := true) rfl en78 (C78 (c := c) (cat := p.category) (by omega)) (RL.cons (by exact View.same rfl) (RL.cons (by exact View.same rfl) (RL.nil))) rfl) ?_; simp only [nA, ↓reduceIte]
  refine zQ (op_not rfl rfl rfl) ?_
  (refine yL rfl rfl rfl ?_; repeat (first | exact fun _ _ => rfl | refine zU rfl ?_))
 simp only [nA, ↓reduceIte]
 refine zQ (zD rfl rfl) ?_
 refine yN (hK _ ?_); clear hK K; simp only [nA]
 refine zL rfl rfl rfl (fun hc => ?_) (fun hc => ?_)
 ·
  (try simp only [z7] at hc); have hc4 := hc
  refine zA fun K hK => zB ?_
  refine zF (op_build2 (xs := [.v (.int .i64 0), .v (.string ⟨#[]⟩), .v (.int .i64 0), .v (.string ⟨#[]⟩), .v (.int .i64 0), .v (.int .i64 0), .v (.int .i64 0), .v (.int .i64 0), .v (.int .i64 0), .v (.int .i64 0), .v (.slice none 0 0)]) rfl pl33 ze33 [] rfl rfl rfl) ?_
  refine yD (z8 rfl rfl rfl rfl rfl rfl yH rfl (bl rfl) rfl) ?_; simp only [nA, Nat.reduceBEq, Nat.reduceEqDiff, ↓reduceIte]
  refine zF (zD rfl rfl) ?_
  refine zE (hK _ ?_); clear hK K; try simp only [nA, Nat.reduceBEq, Nat.reduceEqDiff, ↓reduceIte, Nat.reduceAdd, Nat.reduceSub]
  refine AW.gh (Gh.slot (r := 2) (es' := [zeroC.av]) rfl rfl zero_le) ?_; try simp only [nA, Nat.reduceBEq, Nat.reduceEqDiff, ↓reduceIte, Nat.reduceAdd, Nat.reduceSub]
  refine zO ?_; (try simp only [zI, zJ, Nat.reduceEqDiff, ↓reduceIte]); have he : putC c p lim = (zeroC, 4) := (by unfold putC; rw [if_neg (by simpa using hc1), if_neg (by simpa using hc2), if_neg (by simpa using hc3), if_pos (by simpa using hc)]); rw [he]; exact zS rfl (.cell (bl rfl) rfl rfl rfl ag33 yH (bl rfl) rfl rfl (.tmp (bl rfl) rfl rfl .nil))
 (try simp only [z7] at hc); have hc4 := hc
 refine zA fun K hK => ?_
 refine AW.quiet mix (by kernel_rfl) ?_
 refine zQ (zC rfl rfl) ?_
 refine zQ (zC rfl rfl) ?_
 refine' aqAndN' [_, _, _, _, _, _, _, _, _, _, _, _, _, _, _] [47,48,49,50,51,52,53,54,55,56,57,58,59,60,61] rfl rfl rfl rfl rfl rfl rfl rfl rfl rfl rfl rfl (fun hb => ?_) ?_; rotate_left
 ·
  (try simp only [z7] at hb)
  refine zQ (zC rfl rfl) ?_
  refine zQ (zX rfl rfl Tryz.underlying117 (by exact .inr (.inl ⟨_, rfl, rfl⟩))) ?_
  refine zQ (zH rfl rfl rfl fl33_4 (by exact sz3) (by decide) rfl) ?_
  refine aqR (zG rfl rfl rfl rfl ag3 rfl rfl) ?_
  refine zQ (op_geq rfl rfl rfl) ?_
  refine zQ (zC rfl rfl) ?_
  refine' aqOr' [_, _, _, _, _, _, _, _] [53,54,55,56,57,58,59,60] rfl rfl rfl rfl rfl rfl rfl rfl rfl rfl rfl rfl (fun hb => ?_) ?_; rotate_left
  ·
   (try simp only [z7] at hb)
   refine zQ (zC rfl rfl) ?_
   refine aqQ (zT (b := true) rfl en79 (C79 (l := c.pieces) (by omega) hvw) (RL.cons (by exact View.same rfl) (RL.nil)) rfl) ?_; simp only [nA, Nat.reduceEqDiff, ↓reduceIte]
   refine zQ (zH rfl rfl rfl fl35_1 (by exact sz3) (by decide) rfl) ?_
   refine aqR (zG rfl rfl rfl rfl ag3 rfl rfl) ?_
   refine zQ (zR rfl rfl rfl (by omega)) ?_
   refine zQ (zH rfl rfl rfl fl33_3 (by exact sz3) (by decide) rfl) ?_
   refine aqR (zG rfl rfl rfl rfl ag3 rfl rfl) ?_
   refine zQ (op_gtr rfl rfl rfl) ?_
   (refine yL rfl rfl rfl ?_; repeat (first | exact fun _ _ => rfl | refine zU rfl ?_))
  simp only [nA, Nat.reduceEqDiff, ↓reduceIte]
  (refine yL rfl rfl rfl ?_; repeat (first | exact fun _ _ => rfl | refine zU rfl ?_ | refine era_out rfl ?_))
 simp only [nA, Nat.reduceEqDiff, ↓reduceIte]
 refine zQ (zD rfl rfl) ?_
 refine yN (hK _ ?_); clear hK K; simp only [nA]
 refine zL rfl rfl rfl (fun hc => ?_) (fun hc => ?_)
 ·
  (try simp only [z7] at hc); have hc5 := hc
  refine zA fun K hK => zB ?_
  refine zF (op_build2 (xs := [.v (.int .i64 0), .v (.string ⟨#[]⟩), .v (.int .i64 0), .v (.string ⟨#[]⟩), .v (.int .i64 0), .v (.int .i64 0), .v (.int .i64 0), .v (.int .i64 0), .v (.int .i64 0), .v (.int .i64 0), .v (.slice none 0 0)]) rfl pl33 ze33 [] rfl rfl rfl) ?_
  refine yD (z8 rfl rfl rfl rfl rfl rfl yH rfl (bl rfl) rfl) ?_; simp only [nA, Nat.reduceBEq, Nat.reduceEqDiff, ↓reduceIte]
  refine zF (zD rfl rfl) ?_
  refine zE (hK _ ?_); clear hK K; try simp only [nA, Nat.reduceBEq, Nat.reduceEqDiff, ↓reduceIte, Nat.reduceAdd, Nat.reduceSub]
  refine AW.gh (Gh.slot (r := 2) (es' := [zeroC.av]) rfl rfl zero_le) ?_; try simp only [nA, Nat.reduceBEq, Nat.reduceEqDiff, ↓reduceIte, Nat.reduceAdd, Nat.reduceSub]
  refine zO ?_; (try simp only [zI, zJ, Nat.reduceEqDiff, ↓reduceIte]); have he : putC c p lim = (zeroC, 8) := (by unfold putC fullB; rw [if_neg (by simpa using hc1), if_neg (by simpa using hc2), if_neg (by simpa using hc3), if_neg (by rcases hc4 with h | h <;> simp [h]), if_pos (by simpa using hc)]); rw [he]; exact zS rfl (.cell (bl rfl) rfl rfl rfl ag33 yH (bl rfl) rfl rfl (.tmp (bl rfl) rfl rfl .nil))
 (try simp only [z7] at hc); have hc5 := hc
 refine zA fun K hK => zB ?_
 refine zF (zC rfl rfl) ?_
 refine zF (zX rfl rfl Tryz.underlying117 (by exact .inr (.inl ⟨_, rfl, rfl⟩))) ?_
 refine zF (op_geq rfl rfl rfl) ?_
 refine zF (zD rfl rfl) ?_
 refine zE (hK _ ?_); clear hK K; simp only [nA, Nat.reduceEqDiff, ↓reduceIte]
 refine zL rfl rfl rfl (fun hc => ?_) (fun hc => ?_)
 ·
  (try simp only [z7] at hc); have hc6 := hc
  refine zA fun K hK => zB ?_
  refine zF (op_build2 (xs := [.v (.int .i64 0), .v (.string ⟨#[]⟩), .v (.int .i64 0), .v (.string ⟨#[]⟩), .v (.int .i64 0), .v (.int .i64 0), .v (.int .i64 0), .v (.int .i64 0), .v (.int .i64 0), .v (.int .i64 0), .v (.slice none 0 0)]) rfl pl33 ze33 [] rfl rfl rfl) ?_
  refine yD (z8 rfl rfl rfl rfl rfl rfl yH rfl (bl rfl) rfl) ?_; simp only [nA, Nat.reduceBEq, Nat.reduceEqDiff, ↓reduceIte]
  refine zF (zD rfl rfl) ?_
  refine zE (hK _ ?_); clear hK K; try simp only [nA, Nat.reduceBEq, Nat.reduceEqDiff, ↓reduceIte, Nat.reduceAdd, Nat.reduceSub]
  refine AW.gh (Gh.slot (r := 2) (es' := [zeroC.av]) rfl rfl zero_le) ?_; try simp only [nA, Nat.reduceBEq, Nat.reduceEqDiff, ↓reduceIte, Nat.reduceAdd, Nat.reduceSub]
  refine zO ?_; (try simp only [zI, zJ, Nat.reduceEqDiff, ↓reduceIte]); have he : putC c p lim = (zeroC, 2) := (by unfold putC fullB; rw [if_neg (by simpa using hc1), if_neg (by simpa using hc2), if_neg (by simpa using hc3), if_neg (by rcases hc4 with h | h <;> simp [h]), if_neg (by rcases hc5 with h | h; (simp [h]); (simp; intro _; omega)), if_pos (by simpa using hc)]); rw [he]; exact zS rfl (.cell (bl rfl) rfl rfl rfl ag33 yH (bl rfl) rfl rfl (.tmp (bl rfl) rfl rfl .nil))
 (try simp only [z7] at hc); have hc6 := hc
 refine zM ?_
 (try simp only [zI, zJ, Nat.reduceEqDiff, ↓reduceIte])
 refine hK _ ?_; clear hK K
 refine zA fun K hK => zB ?_
 refine zF (zC rfl rfl) ?_
 refine zF (zC rfl rfl) ?_
 refine awR (zK rfl rfl rfl rfl ag35 yR (bl rfl) rfl) ?_
 refine yD (op_call (b := false) rfl en80 (C80 (l := c.pieces) (i := posP c.pieces p.plate) (p := p) (pos_le _ _) (by omega)) (RL.cons (by exact View.same rfl) (RL.cons (by exact View.same rfl) (RL.cons (by exact View.same rfl) (RL.nil)))) rfl (fun h => by cases h) rfl rfl) ?_; simp only [nA, Nat.reduceEqDiff, ↓reduceIte]
 refine zF (zH rfl rfl rfl fl33_7 (by exact sz31) (by decide) rfl) ?_
 refine yD (z8 rfl rfl rfl rfl rfl rfl sz31 rfl (bl rfl) rfl) ?_; simp only [nA, ↓reduceIte]
 refine zE (hK _ ?_); clear hK K
 refine zA fun K hK => zB ?_
 refine awR (zK rfl rfl rfl rfl ag33 yH (bl rfl) rfl) ?_
 refine yD (z8 rfl rfl rfl rfl rfl rfl yH rfl (bl rfl) rfl) ?_; simp only [nA, Nat.reduceBEq, Nat.reduceEqDiff, ↓reduceIte]
 refine zF (zD rfl rfl) ?_
 refine zE (hK _ ?_); clear hK K; try simp only [nA, Nat.reduceBEq, Nat.reduceEqDiff, ↓reduceIte, Nat.reduceAdd, Nat.reduceSub]
 skip
 refine zO ?_; (try simp only [zI, zJ, Nat.reduceEqDiff, ↓reduceIte]); have he : putC c p lim = (insC c p, 0) := (by unfold putC fullB; rw [if_neg (by simpa using hc1), if_neg (by simpa using hc2), if_neg (by simpa using hc3), if_neg (by rcases hc4 with h | h <;> simp [h]), if_neg (by rcases hc5 with h | h; (simp [h]); (simp; intro _; omega)), if_neg (by simpa using hc)]); rw [he]; exact zS rfl (.cell (bl rfl) rfl rfl rfl ag33 yH (bl rfl) rfl rfl (.tmp (bl rfl) rfl rfl .nil))
end Go.Proofs.YtmdohphcolffmaaGreat
