import Derived.Test.YtbbedhidiffdgaaCr
namespace Go.Proofs.Ytbbedhidiffdgaa
open Go.RowKit
set_option linter.unusedSimpArgs false
set_option linter.unusedVariables false

/-! ### The carts of the source: numbered from 1 on, with few plates -/
structure Fil (xs : List Cart) : Prop where
  inv : Inv xs
  seq : ∀ (i : Nat) (c : Cart), xs[i]? = some c → c.number = (i : Int) + 1
  few : ∀ c ∈ xs, ∀ q ∈ c.plates, ∃ j : Int, 0 ≤ j ∧ j < 60 ∧ q = platesP j
theorem Fil.set {xs : List Cart} {i : Nat} {c c' : Cart} (h : Fil xs) (hI : Inv (xs.set i c')) (hi : xs[i]? = some c) (hn : c'.number = c.number) (hf : ∀ q ∈ c'.plates, q ∈ c.plates ∨ ∃ j : Int, 0 ≤ j ∧ j < 60 ∧ q = platesP j) : Fil (xs.set i c') := by
  refine ⟨hI, fun m d hm => ?_, fun d hd q hq => ?_⟩
  · have hl := (List.getElem?_eq_some_iff.1 hi).1
    by_cases h1 : i = m
    · subst h1; rw [List.getElem?_set_self hl] at hm; injection hm with hm; rw [← hm, hn]; exact h.seq i c hi
    · rw [List.getElem?_set_ne h1] at hm; exact h.seq m d hm
  · rcases List.mem_or_eq_of_mem_set hd with hd | rfl
    · exact h.few d hd q hq
    · exact (hf q hq).elim (h.few c (mem_i hi) q) id
theorem Fil.last {xs : List Cart} (h : Fil xs) : lastN xs = (xs.length : Int) := by
  unfold lastN
  split
  · rename_i h0; omega
  · rename_i h0
    have := h.seq (xs.length - 1) _ (ix_at (i := xs.length - 1) (by omega))
    rw [this]; omega
theorem Fil.put {xs : List Cart} (h : Fil xs) {ch cat : Int} {f : Flight} {j : Int} (hj : 0 ≤ j ∧ j < 60) (h0 : (putV xs ch f cat (platesP j)).2.2 = 0) : Fil (putV xs ch f cat (platesP j)).1 := by
  have hI := put_inv h0
  obtain ⟨-, -, -, -, ⟨i, c, hi, -, -, e⟩ | ⟨-, -, -, e⟩⟩ := putV_cases h0
  · rw [e] at hI ⊢
    refine h.set hI hi rfl fun q hq => ?_
    rcases List.mem_append.1 hq with hq | hq
    · exact .inl hq
    · exact .inr ⟨j, hj.1, hj.2, List.mem_singleton.1 hq⟩
  · rw [e] at hI ⊢
    refine ⟨hI, fun m d hm => ?_, fun d hd q hq => ?_⟩
    · rcases Nat.lt_or_ge m xs.length with h1 | h1
      · rw [List.getElem?_append_left h1] at hm; exact h.seq m d hm
      · rw [List.getElem?_append_right h1] at hm
        have h2 : m - xs.length = 0 := by have := (List.getElem?_eq_some_iff.1 hm).1; simpa using this
        rw [h2] at hm
        simp at hm
        rw [← hm]
        show lastN xs + 1 = _
        rw [h.last]; omega
    · rcases List.mem_append.1 hd with hd | hd
      · exact h.few d hd q hq
      · rw [List.mem_singleton.1 hd] at hq
        exact ⟨j, hj.1, hj.2, List.mem_singleton.1 hq⟩
theorem Fil.send {xs : List Cart} (h : Fil xs) {n : Int} (h0 : (sendV xs n).2 = 0) : Fil (sendV xs n).1 := by
  have hI := send_inv h0
  obtain ⟨-, i, c, hi, -, -, -, e⟩ := sendV_cases h0
  rw [e] at hI ⊢
  exact h.set hI hi rfl fun q hq => .inl hq
theorem Fil.take {xs : List Cart} (h : Fil xs) {p : Plate} (h0 : (takeV xs p).2 = 0) : Fil (takeV xs p).1 := by
  have hI := take_inv h0
  obtain ⟨-, i, c, hi, -, -, -, e⟩ := takeV_cases h0
  rw [e] at hI ⊢
  exact h.set hI hi rfl fun q hq => .inl (List.mem_filter.1 hq).1
theorem fil_nil : Fil [] := ⟨inv_nil, by simp, by simp⟩
theorem fil1_ok {l : List Int} {k : Nat} {xs : List Cart} (h : Fil xs) : Fil (fil1 l k xs).1 := by
  have h1 : Fil (put1 l k xs) := by
    unfold put1
    split
    · rename_i h1; exact h.put (gmod_bd (by decide)) h1
    · exact h
  have h2 : Fil (send1 l (nx4 l k) (put1 l k xs)).1 := by
    unfold send1
    split
    · split
      · rename_i h2; exact h1.send h2
      · exact h1
    · exact h1
  unfold fil1 take1
  split
  · split
    · rename_i h3; exact h2.take h3
    · exact h2
  · exact h2
theorem filF_ok {l : List Int} : ∀ (j k : Nat) (xs : List Cart), Fil xs → Fil (filF l j k xs).1
  | 0, _, _, h => h
  | j + 1, _, _, h => filF_ok j _ _ (fil1_ok h)
theorem fil_ok (l : List Int) (k n : Nat) : Fil (filV l k n).1 := filF_ok _ _ _ fil_nil
theorem gmod_id {x n : Int} (h : 0 ≤ x ∧ x < n) : gmod x n = x := by
  unfold gmod
  have : Int.tmod x n = x := Int.tmod_eq_of_lt h.1 h.2
  rw [if_neg (by omega), this, if_neg (by omega)]
theorem plates_ne {i j : Int} (hi : 0 ≤ i ∧ i < 100) (hj : 0 ≤ j ∧ j < 100) (h : platesP i = platesP j) : i = j := by
  unfold platesP at h
  rw [gmod_id (x := i) (by omega), gmod_id (x := j) (by omega)] at h
  injection h with h1 h2 h3
  omega
theorem plates_ok {i : Int} (hi : 0 ≤ i ∧ i < 100) : plB (platesP i) = true := by
  unfold platesP plB
  rw [gmod_id (x := i) (by omega)]
  simp only [Bool.and_eq_true, decide_eq_true_eq]
  omega
theorem flights_ok : ∀ x : Fin 3, flB (flightN ((x : Nat) : Int)) = true := by decide +kernel
theorem place_ok {ch x cat : Int} (hc : 0 ≤ ch ∧ ch < 3) (hx : 0 ≤ x ∧ x < 3) (hk : 0 ≤ cat ∧ cat < 3) : placeB ch (flightN x) cat = true := by
  have h := flights_ok ⟨x.toNat, by omega⟩
  have e : (((⟨x.toNat, by omega⟩ : Fin 3) : Nat) : Int) = x := by show ((x.toNat : Nat) : Int) = x; omega
  rw [e] at h
  unfold placeB
  rw [h, decide_eq_true (by omega), decide_eq_true (by omega), decide_eq_true (by omega), decide_eq_true (by omega)]
  rfl
theorem count_zero {xs : List Cart} {p : Plate} (h : ∀ c ∈ xs, p ∉ c.plates) : countV xs p = 0 := by
  rcases Nat.eq_zero_or_pos (countV xs p) with h0 | h0
  · exact h0
  · obtain ⟨c, hc, hp⟩ := countV_pos.1 h0; exact absurd hp (h c hc)
/-- Put of a good plate that is on no cart fails only where all carts are taken. -/
theorem put_good {xs : List Cart} {ch cat : Int} {f : Flight} {p : Plate} (h : Inv xs) (hl : lastN xs = (xs.length : Int)) (hb : placeB ch f cat = true) (hp : plB p = true) (h0 : ∀ c ∈ xs, p ∉ c.plates) :
    (putV xs ch f cat p).2.2 = 0 ∨ ((putV xs ch f cat p).2.2 = 8 ∧ xs.length = 24) := by
  have h1 : ¬ chkL xs ≠ 0 := by have := chkL_iff.2 h; omega
  have h2 : ¬ (placeB ch f cat = false ∨ plB p = false) := by rw [hb, hp]; simp
  have h3 : ¬ (findV xs p).2 = true := fun h => by have := findV_count.1 h; rw [count_zero h0] at this; omega
  unfold putV
  rw [if_neg h1, if_neg h2, if_neg h3]
  by_cases h4 : roomN xs ch f cat < xs.length
  · rw [if_pos h4]; exact .inl rfl
  · rw [if_neg h4]
    by_cases h5 : xs.length = 24 ∨ lastN xs = 1048576
    · rw [if_pos h5]
      refine .inr ⟨rfl, ?_⟩
      have := h.len
      rcases h5 with h5 | h5
      · exact h5
      · omega
    · rw [if_neg h5]; exact .inl rfl
theorem filt_add {l : List Plate} {p : Plate} (h : p ∉ l) : (l ++ [p]).filter (notP p) = l := by
  rw [List.filter_append, List.filter_eq_self.2 fun q hq => by have : q ≠ p := fun e => h (e ▸ hq); simp [this]]
  simp
theorem onN_at {xs : List Cart} {i : Nat} {c : Cart} {p : Plate} (hi : xs[i]? = some c) (hp : p ∈ c.plates) (hb : ∀ (k : Nat) (d : Cart), k ≠ i → xs[k]? = some d → p ∉ d.plates) : onN xs p = i :=
  first_at hi (by unfold hasP; exact decide_eq_true hp) fun k hk hki => decide_eq_false (hb k _ (by omega) (List.getElem?_eq_getElem hk))
theorem set_get {α : Type} {xs : List α} {i : Nat} {c : α} (h : xs[i]? = some c) : xs.set i c = xs := by
  obtain ⟨hlt, hge⟩ := List.getElem?_eq_some_iff.1 h
  rw [← hge]; exact List.set_getElem_self hlt
/-- Put, then take. -/
theorem put_take {xs : List Cart} {ch cat : Int} {f : Flight} {p : Plate} (h : (putV xs ch f cat p).2.2 = 0) :
    findV (putV xs ch f cat p).1 p = ((putV xs ch f cat p).2.1, true) ∧ ∃ z, takeV (putV xs ch f cat p).1 p = (z, 0) ∧ z.length = (putV xs ch f cat p).1.length ∧ xs.length ≤ z.length ∧ z.take xs.length = xs ∧ (xs.length < z.length → (z.getD xs.length default).plates = []) := by
  have hI := put_inv h
  obtain ⟨hx, -, -, h0, hh⟩ := putV_cases h
  have hno : ∀ c ∈ xs, p ∉ c.plates := fun c hc hp => by have := countV_pos.2 ⟨c, hc, hp⟩; omega
  have tk : ∀ {ys : List Cart} {i : Nat} {c : Cart}, Inv ys → ys[i]? = some c → p ∈ c.plates → c.away = false → onN ys p = i → takeV ys p = (ys.set i (delP c p), 0) := fun {ys i c} hy hi hp ha ho => by
    have hlt : i < ys.length := (List.getElem?_eq_some_iff.1 hi).1
    unfold takeV
    rw [if_neg (by have := chkL_iff.2 hy; omega), if_neg (by rw [findV_snd.2 ⟨c, mem_i hi, hp⟩]; simp), ho, get_d hi, ha, if_neg (by simp)]
  have fd : ∀ {ys : List Cart} {i : Nat} {c : Cart}, ys[i]? = some c → onN ys p = i → findV ys p = (c.number, true) := fun {ys i c} hi ho => by
    unfold findV
    rw [ho, if_pos (List.getElem?_eq_some_iff.1 hi).1, get_d hi]
  rcases hh with ⟨i, c, hi, -, hr, e⟩ | ⟨-, -, -, e⟩
  · rw [e] at hI ⊢
    have hlt := (List.getElem?_eq_some_iff.1 hi).1
    have hi' : (xs.set i (addP c p))[i]? = some (addP c p) := by rw [List.getElem?_set_self hlt]
    have ho : onN (xs.set i (addP c p)) p = i := onN_at hi' (by simp) fun k d hk hd => by
      rw [List.getElem?_set_ne hk.symm] at hd; exact hno d (mem_i hd)
    refine ⟨@fd _ _ (addP c p) hi' ho, _, tk hI hi' (by simp) (room_inv hr).1 ho, by simp, by simp, ?_, fun hl => absurd hl (by simp)⟩
    have : delP (addP c p) p = c := by
      show { addP c p with plates := (c.plates ++ [p]).filter (notP p) } = c
      rw [filt_add (hno c (mem_i hi))]
    rw [this, List.set_set, set_get hi, List.take_length]
  · rw [e] at hI ⊢
    have hi' : (xs ++ [newC (lastN xs + 1) ch f cat p])[xs.length]? = some (newC (lastN xs + 1) ch f cat p) := by simp
    have ho : onN (xs ++ [newC (lastN xs + 1) ch f cat p]) p = xs.length := onN_at hi' (by simp) fun k d hk hd => by
      rcases Nat.lt_or_ge k xs.length with h1 | h1
      · rw [List.getElem?_append_left h1] at hd; exact hno d (mem_i hd)
      · have := (List.getElem?_eq_some_iff.1 hd).1; simp at this; omega
    refine ⟨@fd _ _ (newC (lastN xs + 1) ch f cat p) hi' ho, _, tk hI hi' (by simp) rfl ho, by simp, by simp, ?_, fun hl => ?_⟩
    · rw [List.take_set, List.take_append_of_le_length (Nat.le_refl _), List.take_length, List.set_eq_of_length_le (Nat.le_refl _)]
    · rw [List.getD_eq_getElem?_getD, List.getElem?_set_self (by simp)]
      simp
end Go.Proofs.Ytbbedhidiffdgaa
