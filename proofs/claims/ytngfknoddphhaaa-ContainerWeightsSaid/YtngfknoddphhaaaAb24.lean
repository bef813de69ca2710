import Derived.Test.YtngfknoddphhaaaAb23
namespace Go.Proofs.Ytngfknoddphhaaa
open Go.RowKit
set_option linter.unusedSimpArgs false
set_option linter.unusedVariables false

/-! ### What is known is said otherwise: nil is an empty list -/
inductive Le1 : AV → AV → Prop
  | same {x} : Le1 x x
  | nil : Le1 (.v (.slice none 0 0)) (.ro [])
theorem Le1.rep {P : Program} {S : Nat → Prop} {w : World} {bs : List Nat} {u : Value} {x y : AV} (h : Le1 x y) (hr : Rep P S w bs u x) : Rep P S w bs u y := by
  cases h with
  | same => exact hr
  | nil =>
    obtain ⟨rfl, rfl, _⟩ := hr.v_inv
    exact rep_ro_nil
section
variable {C : Cx} {σ : Sta}
theorem Gh.slot {e : TypeId} {es es' : List (List AV)} {r k : Nat} (hT : σ.T.slots[r]? = some (k, .own e es)) (hl : es'.map List.length = es.map List.length) (hle : RL Le1 es.flatten es'.flatten) : Gh C σ ⟨σ.env, ⟨σ.T.slots.set r (k, .own e es'), σ.T.ep⟩, σ.n⟩ := by
  intro a w ⟨hd, hn, S, vals, bss, hm, he⟩
  obtain ⟨v, bs, hv, hb, hrep⟩ := hm.slot hT
  have hlen : es'.length = es.length := by have := congrArg List.length hl; simpa using this
  have hrep' : Rep C.P S w bs v (.own e es') := by
    obtain ⟨us, sz, bss', rfl, hi, hsz, hown, hul, hbl, hc⟩ := hrep.own_inv
    refine .own hi (fun x hx => ?_) (by rw [hlen]; exact hown) (by rw [hul]; exact hle.1) hbl fun i u x b h1 h2 h3 => ?_
    · have h1 : x.length ∈ es'.map List.length := List.mem_map_of_mem hx
      rw [hl] at h1
      obtain ⟨y, hy, h2⟩ := List.mem_map.1 h1
      rw [← h2]; exact hsz y hy
    · have hlt : i < es.flatten.length := by rw [hle.1]; exact (List.getElem?_eq_some_iff.1 h2).1
      have h4 := List.getElem?_eq_getElem hlt
      exact (hle.2 i _ x h4 h2).rep (hc i u _ b h1 h4 h3)
  obtain ⟨hm', hf⟩ := hm.set hT hv hb (Kept.refl _ _) hrep' (hm.nodup r bs hb) (fun b h => .inl h) (.inl ⟨rfl, rfl, rfl, fun e' es2 h => (by injection h with h1 h2; subst h1; subst h2; exact ⟨es, rfl, hlen.symm⟩), fun b ks h => (by cases h)⟩)
  exact ⟨hd, hn, S, _, _, hm', fun t ht => TmpOK.follows hf (he t ht)⟩
theorem Gh.tmp {cs cs' : List AV} (t : Nat) (ht : t < σ.n) (hv : σ.env t = .agg cs) (hle : RL Le1 cs cs') : Gh C σ ⟨upd σ.env t (.agg cs'), σ.T, σ.n⟩ := by
  intro a w ⟨hd, hn, S, vals, bss, hm, he⟩
  refine ⟨hd, hn, S, vals, bss, hm, fun q hq => ?_⟩
  show TmpOK _ _ _ _ _ _ (upd σ.env t _ q)
  unfold upd
  by_cases h : q = t
  · subst h
    rw [if_pos rfl]
    have h1 := he q hq
    rw [hv] at h1
    obtain ⟨us, e, rl⟩ := h1
    refine ⟨us, e, rl.1.trans hle.1, fun i u x hu hx => ?_⟩
    have hlt : i < cs.length := by rw [hle.1]; exact (List.getElem?_eq_some_iff.1 hx).1
    have h4 := List.getElem?_eq_getElem hlt
    have h5 := rl.2 i u _ hu h4
    have h6 := hle.2 i _ x h4 hx
    generalize cs[i] = y at h5 h6
    cases h6 with
    | same => exact h5
    | nil => exact Le1.rep .nil (show Rep C.P S w [] u _ from h5)
  · rw [if_neg h]; exact he q hq
end
end Go.Proofs.Ytngfknoddphhaaa
