import Derived.Test.YtjgbbffcjbmjmaaFb
namespace Go.Proofs.Ytjgbbffcjbmjmaa
open Go.RowKit
set_option linter.unusedSimpArgs false
set_option linter.unusedVariables false

/-! ### What a search finds -/
abbrev gB (l : List Bool) (k : Nat) : Bool := l.getD k default
abbrev gI (l : List Int) (k : Nat) : Int := l.getD k default
theorem gB_set {l : List Bool} {i k : Nat} : gB (l.set i true) k = true ↔ (i = k ∧ i < l.length) ∨ gB l k = true := by
  by_cases h : i < l.length
  · unfold gB
    rw [getD_set h]
    by_cases he : i = k
    · rw [if_pos he]; simp [he]; exact .inl (he ▸ h)
    · rw [if_neg he]; simp [he]
  · rw [List.set_eq_of_length_le (by omega)]
    constructor
    · exact .inr
    · rintro (⟨-, h'⟩ | h')
      · exact absurd h' h
      · exact h'
theorem gB_false {l : List Bool} {k : Nat} : gB l k = false ↔ ¬ gB l k = true := by cases gB l k <;> simp
theorem gI_set {l : List Int} {i k : Nat} {x : Int} (h : i < l.length) : gI (l.set i x) k = if i = k then x else gI l k := getD_set h
structure PF (T : Nat → Nat → Prop) (n i : Nat) (s s' : ISt) : Prop where
  to : s'.to = s.to
  cl : ∀ r, r < n → gB s'.sr r = true → (gB s.sr r = false ∨ r = i) → ∀ k, k < n → T r k → gB s'.sc k = true
  co : ∀ k, k < n → gB s'.sc k = true → gB s.sc k = true ∨ (0 ≤ gI s.to k ∧ gB s'.sr (gI s.to k).toNat = true)
  ro : ∀ r, r < n → gB s'.sr r = true → gB s.sr r = true ∨ r = i ∨ ∃ k, k < n ∧ gB s'.sc k = true ∧ gI s.to k = r
  me : gB s'.sr i = true
def InjU (n : Nat) (sc : List Bool) (to : List Int) : Prop := ∀ k k', k < n → k' < n → gB sc k = false → gB sc k' = false → 0 ≤ gI to k → gI to k = gI to k' → k = k'
structure PT (T : Nat → Nat → Prop) (n i : Nat) (s s' : ISt) : Prop where
  out : ∀ k, k < n → gB s.sc k = true → gI s'.to k = gI s.to k
  ti : (∀ k, k < n → 0 ≤ gI s.to k → T (gI s.to k).toNat k) → ∀ k, k < n → 0 ≤ gI s'.to k → T (gI s'.to k).toNat k
  un : ∀ k, k < n → gI s'.to k < 0 → gI s.to k < 0
  me : ∃ k, k < n ∧ gB s.sc k = false ∧ gI s'.to k = i
  th : ∀ r : Nat, r ≠ i → ((∃ k, k < n ∧ gB s.sc k = false ∧ gI s'.to k = r) ↔ (∃ k, k < n ∧ gB s.sc k = false ∧ gI s.to k = r))
  inj : InjU n s.sc s.to → (∀ k, k < n → gB s.sc k = false → gI s.to k ≠ i) → InjU n s.sc s'.to
structure Mono (s s' : ISt) : Prop where
  sc : ∀ k, gB s.sc k = true → gB s'.sc k = true
  sr : ∀ k, gB s.sr k = true → gB s'.sr k = true
theorem Mono.refl {s : ISt} : Mono s s := ⟨fun _ h => h, fun _ h => h⟩
theorem Mono.trans {a b c : ISt} (h : Mono a b) (h' : Mono b c) : Mono a c := ⟨fun k q => h'.sc k (h.sc k q), fun k q => h'.sr k (h.sr k q)⟩
theorem Mono.col {s : ISt} {k : Nat} : Mono s ⟨s.sr, s.sc.set k true, s.to⟩ := ⟨fun _ h => gB_set.2 (.inr h), fun _ h => h⟩
structure Ps (T : Nat → Nat → Prop) (n i : Nat) (s : ISt) (q : Bool × ISt) : Prop where
  inv : Inv n q.2
  cnt : cnt q.2 ≤ cnt s
  mono : Mono s q.2
  f : q.1 = false → PF T n i s q.2
  t : q.1 = true → PT T n i s q.2
section
variable {W : List (List Int)} {rows cols : List Int} {n m i : Nat} {rec : Nat → ISt → Bool × ISt}
def Tg (W : List (List Int)) (rows cols : List Int) (r k : Nat) : Prop := gI rows r + gI cols k = gI (W.getD r default) k
/-- One column is taken at once. -/
theorem PT.free {T : Nat → Nat → Prop} {s : ISt} {k : Nat} (hI : Inv n s) (hk : k < n) (hc : gB s.sc k = false) (hT : T i k) (h0 : gI s.to k < 0) : PT T n i s ⟨s.sr, s.sc.set k true, s.to.set k i⟩ := by
  have hkl : k < s.to.length := by rw [hI.to]; exact hk
  have hg : ∀ q, gI (s.to.set k (i : Int)) q = if k = q then (i : Int) else gI s.to q := fun q => gI_set hkl
  refine ⟨fun q hq h => ?_, fun ht q hq h => ?_, fun q hq h => ?_, ⟨k, hk, hc, ?_⟩, fun r hr => ⟨?_, ?_⟩, fun hi hn q q' hq hq' h1 h2 h3 h4 => ?_⟩
  · show gI (s.to.set k (i : Int)) q = _
    rw [hg, if_neg]
    rintro rfl
    rw [hc] at h; cases h
  · show T (gI (s.to.set k (i : Int)) q).toNat q
    have h' : 0 ≤ gI (s.to.set k (i : Int)) q := h
    rw [hg] at h' ⊢
    split
    · rename_i e; subst e; simpa using hT
    · rename_i e; rw [if_neg e] at h'; exact ht q hq h'
  · have h' : gI (s.to.set k (i : Int)) q < 0 := h
    rw [hg] at h'
    split at h'
    · omega
    · exact h'
  · show gI (s.to.set k (i : Int)) k = i
    rw [hg, if_pos rfl]
  · rintro ⟨q, hq, h1, h2⟩
    have h' : gI (s.to.set k (i : Int)) q = r := h2
    rw [hg] at h'
    split at h'
    · omega
    · exact ⟨q, hq, h1, h'⟩
  · rintro ⟨q, hq, h1, h2⟩
    refine ⟨q, hq, h1, ?_⟩
    show gI (s.to.set k (i : Int)) q = r
    rw [hg, if_neg]
    · exact h2
    · rintro rfl; omega
  · have h3' : 0 ≤ gI (s.to.set k (i : Int)) q := h3
    have h4' : gI (s.to.set k (i : Int)) q = gI (s.to.set k (i : Int)) q' := h4
    rw [hg] at h3' h4'
    rw [hg] at h4'
    split at h4'
    · rename_i e
      split at h4'
      · rename_i e'; omega
      · exact absurd h4'.symm (hn q' hq' h2)
    · rename_i e
      rw [if_neg e] at h3'
      split at h4'
      · exact absurd h4' (hn q hq h1)
      · exact hi q q' hq hq' h1 h2 h3' h4'
/-- A column's row has found another one. -/
theorem PT.via {T : Nat → Nat → Prop} {s s2 : ISt} {k j : Nat} (hI : Inv n s) (hI2 : Inv n s2) (hk : k < n) (hc : gB s.sc k = false) (hT : T i k) (hj : gI s.to k = j) (h : PT T n j ⟨s.sr, s.sc.set k true, s.to⟩ s2) : PT T n i s ⟨s2.sr, s2.sc, s2.to.set k i⟩ := by
  have hkl : k < s2.to.length := by rw [hI2.to]; exact hk
  have hks : k < s.sc.length := by rw [hI.sc]; exact hk
  have hg : ∀ q, gI (s2.to.set k (i : Int)) q = if k = q then (i : Int) else gI s2.to q := fun q => gI_set hkl
  have hs1 : ∀ q, gB (s.sc.set k true) q = false ↔ q ≠ k ∧ gB s.sc q = false := fun q => by
    rw [gB_false, gB_set, gB_false]
    constructor
    · intro h; exact ⟨fun e => h (.inl ⟨e.symm, hks⟩), fun e => h (.inr e)⟩
    · rintro ⟨h1, h2⟩ (⟨e, -⟩ | e)
      · exact h1 e.symm
      · exact h2 e
  have hout : gI s2.to k = j := by rw [← hj]; exact h.out k hk (gB_set.2 (.inl ⟨rfl, hks⟩))
  refine ⟨fun q hq h' => ?_, fun ht q hq h' => ?_, fun q hq h' => ?_, ⟨k, hk, hc, ?_⟩, fun r hr => ⟨?_, ?_⟩, fun hi hn q q' hq hq' h1 h2 h3 h4 => ?_⟩
  · show gI (s2.to.set k (i : Int)) q = _
    rw [hg, if_neg]
    · exact h.out q hq (gB_set.2 (.inr h'))
    · rintro rfl
      rw [hc] at h'; cases h'
  · show T (gI (s2.to.set k (i : Int)) q).toNat q
    have h3 : 0 ≤ gI (s2.to.set k (i : Int)) q := h'
    rw [hg] at h3 ⊢
    split
    · rename_i e; subst e; simpa using hT
    · rename_i e; rw [if_neg e] at h3; exact h.ti ht q hq h3
  · have h3 : gI (s2.to.set k (i : Int)) q < 0 := h'
    rw [hg] at h3
    split at h3
    · omega
    · exact h.un q hq h3
  · show gI (s2.to.set k (i : Int)) k = i
    rw [hg, if_pos rfl]
  · rintro ⟨q, hq, h1, h2⟩
    have h3 : gI (s2.to.set k (i : Int)) q = r := h2
    rw [hg] at h3
    split at h3
    · omega
    · rename_i e
      by_cases hrj : r = j
      · subst hrj; exact ⟨k, hk, hc, hj⟩
      · obtain ⟨p, hp, h4, h5⟩ := (h.th r hrj).1 ⟨q, hq, (hs1 q).2 ⟨fun e' => e e'.symm, h1⟩, h3⟩
        exact ⟨p, hp, ((hs1 p).1 h4).2, h5⟩
  · rintro ⟨q, hq, h1, h2⟩
    have key : ∃ p, p < n ∧ gB (s.sc.set k true) p = false ∧ gI s2.to p = r := by
      by_cases hrj : r = j
      · subst hrj; exact h.me
      · refine (h.th r hrj).2 ⟨q, hq, (hs1 q).2 ⟨?_, h1⟩, h2⟩
        rintro rfl
        rw [hj] at h2
        exact hrj (by omega)
    obtain ⟨p, hp, h3, h4⟩ := key
    refine ⟨p, hp, ((hs1 p).1 h3).2, ?_⟩
    show gI (s2.to.set k (i : Int)) p = r
    rw [hg, if_neg (fun e => ((hs1 p).1 h3).1 e.symm)]
    exact h4
  · have hi1 : InjU n (s.sc.set k true) s.to := fun a b ha hb q1 q2 q3 q4 => hi a b ha hb ((hs1 a).1 q1).2 ((hs1 b).1 q2).2 q3 q4
    have hn1 : ∀ a, a < n → gB (s.sc.set k true) a = false → gI s.to a ≠ j := fun a ha q1 q2 => ((hs1 a).1 q1).1 (hi a k ha hk ((hs1 a).1 q1).2 hc (by omega) (by rw [q2, hj]))
    have hi2 := h.inj hi1 hn1
    have hno : ∀ a, a < n → a ≠ k → gB s.sc a = false → gI s2.to a ≠ i := fun a ha hak q1 q2 => by
      by_cases hij : i = j
      · exact hn k hk hc (by rw [hj, hij])
      · obtain ⟨p, hp, h5, h6⟩ := (h.th i hij).1 ⟨a, ha, (hs1 a).2 ⟨hak, q1⟩, q2⟩
        exact hn p hp ((hs1 p).1 h5).2 h6
    have h3' : 0 ≤ gI (s2.to.set k (i : Int)) q := h3
    have h4' : gI (s2.to.set k (i : Int)) q = gI (s2.to.set k (i : Int)) q' := h4
    rw [hg] at h3' h4'
    rw [hg] at h4'
    split at h4'
    · rename_i e
      split at h4'
      · rename_i e'; omega
      · rename_i e'; exact absurd h4'.symm (hno q' hq' (fun e => e' e.symm) h2)
    · rename_i e
      rw [if_neg e] at h3'
      split at h4'
      · exact absurd h4' (hno q hq (fun e' => e e'.symm) h1)
      · rename_i e'
        exact hi2 q q' hq hq' ((hs1 q).2 ⟨fun x => e x.symm, h1⟩) ((hs1 q').2 ⟨fun x => e' x.symm, h2⟩) h3' h4'
/-- A search that found nothing, then one that found something. -/
theorem PT.later {T : Nat → Nat → Prop} {s s2 s' : ISt} (ht : s2.to = s.to) (hm : Mono s s2) (h : PT T n i s2 s') : PT T n i s s' := by
  have hf : ∀ k, gB s2.sc k = false → gB s.sc k = false := fun k hk => gB_false.2 fun q => gB_false.1 hk (hm.sc k q)
  refine ⟨fun k hk q => ?_, fun q => ?_, fun k hk q => ?_, ?_, fun r hr => ⟨?_, ?_⟩, fun hi hn q q' hq hq' h1 h2 h3 h4 => ?_⟩
  · rw [← ht]; exact h.out k hk (hm.sc k q)
  · rw [← ht] at q; exact h.ti q
  · rw [← ht]; exact h.un k hk q
  · obtain ⟨k, hk, q1, q2⟩ := h.me; exact ⟨k, hk, hf k q1, q2⟩
  · rintro ⟨k, hk, q1, q2⟩
    cases hb : gB s2.sc k with
    | true => exact ⟨k, hk, q1, by rw [← ht, ← h.out k hk hb]; exact q2⟩
    | false =>
      obtain ⟨p, hp, q3, q4⟩ := (h.th r hr).1 ⟨k, hk, hb, q2⟩
      exact ⟨p, hp, hf p q3, by rw [← ht]; exact q4⟩
  · rintro ⟨k, hk, q1, q2⟩
    rw [← ht] at q2
    cases hb : gB s2.sc k with
    | true => exact ⟨k, hk, q1, by rw [h.out k hk hb]; exact q2⟩
    | false =>
      obtain ⟨p, hp, q3, q4⟩ := (h.th r hr).2 ⟨k, hk, hb, q2⟩
      exact ⟨p, hp, hf p q3, q4⟩
  · have hi2 : InjU n s2.sc s2.to := fun a b ha hb q1 q2 q3 q4 => hi a b ha hb (hf a q1) (hf b q2) (by rw [← ht]; exact q3) (by rw [← ht]; exact q4)
    have hn2 : ∀ a, a < n → gB s2.sc a = false → gI s2.to a ≠ i := fun a ha q1 => by rw [ht]; exact hn a ha (hf a q1)
    have hI := h.inj hi2 hn2
    -- a seen column and one that was not seen bear different rows
    have mix : ∀ a b, a < n → b < n → gB s2.sc a = true → gB s.sc a = false → gB s2.sc b = false → 0 ≤ gI s'.to a → gI s'.to a = gI s'.to b → False := fun a b ha hb q1 q1' q2 q3 q4 => by
      rw [h.out a ha q1, ht] at q3 q4
      obtain ⟨r, hr⟩ : ∃ r : Nat, gI s.to a = r := ⟨(gI s.to a).toNat, by omega⟩
      by_cases hri : r = i
      · exact hn a ha q1' (by rw [hr, hri])
      · obtain ⟨p, hp, q5, q6⟩ := (h.th r hri).1 ⟨b, hb, q2, by rw [← q4, hr]⟩
        rw [ht] at q6
        have := hi a p ha hp q1' (hf p q5) q3 (by rw [hr, q6])
        subst this
        rw [q1] at q5; cases q5
    cases hb : gB s2.sc q with
    | true =>
      cases hb' : gB s2.sc q' with
      | true =>
        rw [h.out q hq hb, ht] at h3 h4
        rw [h.out q' hq' hb', ht] at h4
        exact hi q q' hq hq' h1 h2 h3 h4
      | false => exact (mix q q' hq hq' hb h1 hb' h3 h4).elim
    | false =>
      cases hb' : gB s2.sc q' with
      | true => exact (mix q' q hq' hq hb' h2 hb (by rw [← h4]; exact h3) h4.symm).elim
      | false => exact hI q q' hq hq' hb hb' h3 h4
theorem impK_spec (hi : i < n) (hrec : ∀ j s, Inv n s → j < n → cnt s < m → Ps (Tg W rows cols) n j s (rec j s)) :
    ∀ (ks : List Nat) (s : ISt), (∀ k ∈ ks, k < n) → Inv n s → cnt s ≤ m → gB s.sr i = true → (∀ k, k < n → k ∉ ks → Tg W rows cols i k → gB s.sc k = true) → Ps (Tg W rows cols) n i s (impK W rows cols rec i ks s)
  | [], s, _, hI, _, hsr, hpr => ⟨hI, Nat.le_refl _, .refl, fun _ => ⟨rfl, fun r hr h1 h2 k hk hT => by
      rcases h2 with h2 | rfl
      · have h1' : gB s.sr r = true := h1; rw [h2] at h1'; cases h1'
      · exact hpr k hk (by simp) hT, fun k hk h => .inl h, fun r hr h => .inl h, hsr⟩, fun h => by cases h⟩
  | k :: ks, s, hk, hI, hm, hsr, hpr => by
    have hk0 : k < n := hk k (by simp)
    have hks : ∀ k ∈ ks, k < n := fun q hq => hk q (by simp [hq])
    have hksc : k < s.sc.length := by rw [hI.sc]; exact hk0
    unfold impK
    split
    · rename_i hc
      refine impK_spec hi hrec ks s hks hI hm hsr fun q hq hqn hT => ?_
      by_cases e : q = k
      · subst e
        rcases hc with hc | hc
        · exact hc
        · exact absurd hT hc
      · exact hpr q hq (by simp [e, hqn]) hT
    · rename_i hc
      have hf : gB s.sc k = false := gB_false.2 fun h => hc (.inl h)
      have hT : Tg W rows cols i k := Classical.not_not.1 fun h => hc (.inr h)
      have hcs := cnt_set hksc hf
      have hcs' : cnt ⟨s.sr, s.sc.set k true, s.to⟩ + 1 = cnt s := hcs
      split
      · rename_i h0
        refine ⟨hI.col.put hi, by show (s.sc.set k true).count false ≤ s.sc.count false; omega, ⟨fun q h => gB_set.2 (.inr h), fun q h => h⟩, (fun h => by cases h), fun _ => PT.free hI hk0 hf hT h0⟩
      · rename_i h0
        obtain ⟨j, hj⟩ : ∃ j : Nat, gI s.to k = j := ⟨(gI s.to k).toNat, by have : ¬ gI s.to k < 0 := h0; omega⟩
        have hjn : j < n := by have := hI.rg k hk0; have h' : gI s.to k < n := this.2; omega
        have hr := hrec j ⟨s.sr, s.sc.set k true, s.to⟩ hI.col hjn (by omega)
        have hjt : (s.to.getD k default).toNat = j := by show (gI s.to k).toNat = j; rw [hj]; simp
        rw [hjt]
        split
        · rename_i s2 he
          rw [he] at hr
          exact ⟨hr.inv.put hi, by have := hr.cnt; show cnt s2 ≤ cnt s; have h' : cnt s2 ≤ cnt ⟨s.sr, s.sc.set k true, s.to⟩ := this; omega, ⟨fun q h => hr.mono.sc q (gB_set.2 (.inr h)), fun q h => hr.mono.sr q h⟩, (fun h => by cases h), fun _ => PT.via hI hr.inv hk0 hf hT hj (hr.t rfl)⟩
        · rename_i s2 he
          rw [he] at hr
          have hF := hr.f rfl
          have hm2 : Mono s s2 := Mono.col.trans hr.mono
          have hc2 : cnt s2 ≤ cnt ⟨s.sr, s.sc.set k true, s.to⟩ := hr.cnt
          have hto : s2.to = s.to := hF.to
          have hks2 : gB s2.sc k = true := hr.mono.sc k (gB_set.2 (.inl ⟨rfl, hksc⟩))
          have IH := impK_spec hi hrec ks s2 hks hr.inv (by omega) (hm2.sr i hsr) fun q hq hqn hT' => by
            by_cases e : q = k
            · subst e; exact hks2
            · exact hm2.sc q (hpr q hq (by simp [e, hqn]) hT')
          refine ⟨IH.inv, by have := IH.cnt; omega, hm2.trans IH.mono, fun hb => ?_, fun hb => PT.later hto hm2 (IH.t hb)⟩
          have F := IH.f hb
          refine ⟨by rw [F.to, hto], fun r hr' h1 h2 q hq hT' => ?_, fun q hq h => ?_, fun r hr' h => ?_, F.me⟩
          · by_cases h3 : r = i ∨ gB s2.sr r = false
            · exact F.cl r hr' h1 (h3.symm.imp id id) q hq hT'
            · have h4 : gB s2.sr r = true := by
                cases hb' : gB s2.sr r with
                | true => rfl
                | false => exact absurd (.inr hb') h3
              exact IH.mono.sc q (hF.cl r hr' h4 (.inl (h2.resolve_right fun e => h3 (.inl e))) q hq hT')
          · rcases F.co q hq h with h | ⟨h1, h2⟩
            · rcases hF.co q hq h with h | ⟨h1, h2⟩
              · rcases gB_set.1 h with ⟨rfl, -⟩ | h
                · exact .inr ⟨by omega, by rw [hj]; exact IH.mono.sr _ (by simpa using hF.me)⟩
                · exact .inl h
              · exact .inr ⟨h1, IH.mono.sr _ h2⟩
            · rw [hto] at h1 h2; exact .inr ⟨h1, h2⟩
          · rcases F.ro r hr' h with h | rfl | ⟨q, hq, h1, h2⟩
            · rcases hF.ro r hr' h with h | rfl | ⟨q, hq, h1, h2⟩
              · exact .inl h
              · exact .inr (.inr ⟨k, hk0, IH.mono.sc k hks2, hj⟩)
              · exact .inr (.inr ⟨q, hq, IH.mono.sc q h1, h2⟩)
            · exact .inr (.inl rfl)
            · exact .inr (.inr ⟨q, hq, h1, by rw [← hto]; exact h2⟩)
theorem Ps.row {T : Nat → Nat → Prop} {s : ISt} {q : Bool × ISt} (hi : i < n) (hI : Inv n s) (h : Ps T n i ⟨s.sr.set i true, s.sc, s.to⟩ q) : Ps T n i s q := by
  have hm : Mono s q.2 := ⟨h.mono.sc, fun k hk => h.mono.sr k (gB_set.2 (.inr hk))⟩
  refine ⟨h.inv, h.cnt, hm, fun hb => ?_, fun hb => ⟨(h.t hb).out, (h.t hb).ti, (h.t hb).un, (h.t hb).me, (h.t hb).th, (h.t hb).inj⟩⟩
  have F := h.f hb
  refine ⟨F.to, fun r hr h1 h2 => F.cl r hr h1 ?_, F.co, fun r hr h1 => ?_, F.me⟩
  · by_cases e : r = i
    · exact .inr e
    · refine .inl (gB_false.2 fun h3 => ?_)
      rcases gB_set.1 h3 with ⟨h4, -⟩ | h4
      · exact e h4.symm
      · rcases h2 with h2 | h2
        · rw [h2] at h4; cases h4
        · exact e h2
  · rcases F.ro r hr h1 with h2 | h2 | h2
    · rcases gB_set.1 h2 with ⟨h3, -⟩ | h3
      · exact .inr (.inl h3.symm)
      · exact .inl h3
    · exact .inr (.inl h2)
    · exact .inr (.inr h2)
theorem imp_spec : ∀ (m i : Nat) (s : ISt), Inv n s → i < n → cnt s ≤ m → Ps (Tg W rows cols) n i s (imp W rows cols n m i s) := by
  intro m
  induction m using Nat.strongRecOn with
  | ind m ih => ?_
  intro i s hI hi hm
  rw [imp_eq]
  refine Ps.row hi hI (impK_spec hi (m := m) (fun j s' hI' hj hc => ?_) _ _ range'_lt hI.row hm (gB_set.2 (.inl ⟨rfl, by rw [hI.sr]; exact hi⟩)) fun k hk hn => ?_)
  · obtain ⟨m', rfl⟩ : ∃ m', m = m' + 1 := ⟨m - 1, by omega⟩
    exact ih m' (Nat.lt_succ_self _) j s' hI' hj (by omega)
  · exact absurd (List.mem_range'_1.2 ⟨Nat.zero_le _, by omega⟩) hn
end
end Go.Proofs.Ytjgbbffcjbmjmaa
