import Derived.Test.YtbbedhidiffdgaaCm
namespace Go.Proofs.Ytbbedhidiffdgaa
open Go.RowKit
set_option linter.unusedSimpArgs false
set_option linter.unusedVariables false

/-! ### Valid carts stay valid -/
theorem valid_mk {c : Cart} (h1 : 1 ≤ c.number ∧ c.number ≤ 1048576) (h2 : c.plates.length ≤ 8) (h3 : ∀ p ∈ c.plates, plB p = true) (h4 : placeB c.chute c.flight c.category = true) (h5 : c.away = true → c.plates ≠ []) : validB c = true := by
  unfold validB headB
  rw [decide_eq_false (by omega), decide_eq_false (by omega), decide_eq_false (by omega), List.all_eq_true.2 h3, h4]
  cases ha : c.away with
  | false => rfl
  | true =>
    have := h5 ha
    rw [decide_eq_false (fun h => this (List.eq_nil_of_length_eq_zero (by omega)))]
    rfl
theorem countV_set {q : Plate} {c c' : Cart} : ∀ {xs : List Cart} {i : Nat}, xs[i]? = some c → countV (xs.set i c') q + c.plates.count q = countV xs q + c'.plates.count q
  | [], i, h => by simp at h
  | d :: xs, 0, h => by
    simp at h; subst h
    rw [List.set_cons_zero, countV_cons, countV_cons]; omega
  | d :: xs, i + 1, h => by
    have := countV_set (q := q) (c' := c') (xs := xs) (i := i) (by simpa using h)
    rw [List.set_cons_succ, countV_cons, countV_cons]; omega
theorem countV_erase {q : Plate} {c : Cart} : ∀ {xs : List Cart} {i : Nat}, xs[i]? = some c → countV (xs.eraseIdx i) q + c.plates.count q = countV xs q
  | [], i, h => by simp at h
  | d :: xs, 0, h => by
    simp at h; subst h
    rw [List.eraseIdx_cons_zero, countV_cons]; omega
  | d :: xs, i + 1, h => by
    have := countV_erase (q := q) (xs := xs) (i := i) (by simpa using h)
    rw [List.eraseIdx_cons_succ, countV_cons, countV_cons]; omega
theorem countV_append {q : Plate} (xs ys : List Cart) : countV (xs ++ ys) q = countV xs q + countV ys q := by simp [countV]
theorem asc_iff {xs : List Cart} : xs.Pairwise (fun c d => c.number < d.number) ↔ (xs.map Cart.number).Pairwise (· < ·) := by rw [List.pairwise_map]
theorem asc_set {xs : List Cart} {i : Nat} {c c' : Cart} (h : xs[i]? = some c) (hn : c'.number = c.number) (ha : xs.Pairwise fun c d => c.number < d.number) : (xs.set i c').Pairwise fun c d => c.number < d.number := by
  rw [asc_iff] at ha ⊢
  rw [List.map_set, hn]
  have : (xs.map Cart.number).set i c.number = xs.map Cart.number := by
    obtain ⟨hlt, hge⟩ := List.getElem?_eq_some_iff.1 h
    have h2 : (xs.map Cart.number)[i]'(by simpa using hlt) = c.number := by simp [hge]
    rw [← h2]; exact List.set_getElem_self _
  rw [this]; exact ha
theorem inv_set {xs : List Cart} {i : Nat} {c c' : Cart} (h : Inv xs) (hi : xs[i]? = some c) (hn : c'.number = c.number) (hv : validB c' = true) (hc : ∀ q, countV xs q + c'.plates.count q ≤ c.plates.count q + 1) : Inv (xs.set i c') :=
  ⟨by rw [List.length_set]; exact h.len, fun d hd => (List.mem_or_eq_of_mem_set hd).elim (h.val d) (fun e => e ▸ hv), asc_set hi hn h.asc, fun q => by
    have h1 := countV_set (q := q) (c' := c') hi
    have := hc q
    omega⟩
theorem mem_i {α : Type} {xs : List α} {i : Nat} {c : α} (h : xs[i]? = some c) : c ∈ xs := List.mem_of_getElem? h
theorem ix_at {α : Type} [Inhabited α] {xs : List α} {i : Nat} (h : i < xs.length) : xs[i]? = some (xs.getD i default) := by
  rw [List.getD_eq_getElem?_getD, List.getElem?_eq_getElem h]; rfl
theorem findIdx_at {α : Type} [Inhabited α] {xs : List α} {f : α → Bool} (h : xs.findIdx f < xs.length) : f (xs.getD (xs.findIdx f) default) = true := by
  rw [List.getD_eq_getElem?_getD, List.getElem?_eq_getElem h]
  exact List.findIdx_getElem
theorem addP_ok {xs : List Cart} {i : Nat} {c : Cart} {p : Plate} (h : Inv xs) (hi : xs[i]? = some c) (hp : plB p = true) (h0 : countV xs p = 0) (ha : c.away = false) (hl : c.plates.length < 8) : Inv (xs.set i (addP c p)) := by
  have hv := valid_inv (h.val c (mem_i hi))
  refine inv_set h hi rfl (valid_mk hv.1 (by simp; omega) (fun q hq => ?_) hv.2.2.2.1 (fun h => by rw [show (addP c p).away = false from ha] at h; cases h)) fun q => ?_
  · rcases List.mem_append.1 hq with hq | hq
    · exact hv.2.2.1 q hq
    · rw [List.mem_singleton.1 hq]; exact hp
  · show countV xs q + (c.plates ++ [p]).count q ≤ _
    rw [List.count_append]
    by_cases hq : q = p
    · subst hq; rw [h0]; simp
    · rw [List.count_singleton, if_neg (by simpa using fun e => hq e.symm)]
      have := h.cnt q; omega
theorem lastN_ge {xs : List Cart} (h : Inv xs) {c : Cart} (hc : c ∈ xs) : c.number ≤ lastN xs := by
  obtain ⟨i, hi, rfl⟩ := List.getElem_of_mem hc
  unfold lastN
  rw [if_neg (by omega), List.getD_eq_getElem?_getD, List.getElem?_eq_getElem (by omega)]
  rcases Nat.lt_or_ge i (xs.length - 1) with h1 | h1
  · have := List.pairwise_iff_getElem.1 h.asc i (xs.length - 1) hi (by omega) h1
    simp only [Option.getD_some]; omega
  · obtain rfl : i = xs.length - 1 := by omega
    exact Int.le_refl _
theorem lastN_bd {xs : List Cart} (h : Inv xs) : 0 ≤ lastN xs ∧ lastN xs ≤ 1048576 := by
  unfold lastN
  split
  · omega
  · rename_i h0
    have := (valid_inv (h.val _ (getD_mem (i := xs.length - 1) (by omega)))).1
    omega
theorem newC_ok {xs : List Cart} {ch cat : Int} {f : Flight} {p : Plate} (h : Inv xs) (hb : placeB ch f cat = true) (hp : plB p = true) (h0 : countV xs p = 0) (hl : xs.length ≠ 24) (hm : lastN xs ≠ 1048576) : Inv (xs ++ [newC (lastN xs + 1) ch f cat p]) := by
  have hbd := lastN_bd h
  have hlen := h.len
  refine ⟨by simp; omega, fun c hc => ?_, List.pairwise_append.2 ⟨h.asc, List.pairwise_singleton _ _, fun c hc d hd => ?_⟩, fun q => ?_⟩
  · rcases List.mem_append.1 hc with hc | hc
    · exact h.val c hc
    · rw [List.mem_singleton.1 hc]
      exact valid_mk ⟨by show 1 ≤ lastN xs + 1; omega, by show lastN xs + 1 ≤ _; omega⟩ (by simp) (fun q hq => by rw [List.mem_singleton.1 hq]; exact hp) hb (fun h => by cases h)
  · rw [List.mem_singleton.1 hd]
    have := lastN_ge h hc
    show _ < lastN xs + 1
    omega
  · rw [countV_append, countV_one]
    have := h.cnt q
    show countV xs q + [p].count q ≤ 1
    by_cases hq : q = p
    · subst hq; rw [h0]; simp
    · rw [List.count_singleton, if_neg (by simpa using fun e => hq e.symm)]; omega
/-- What Put does where it does not fail. -/
theorem putV_cases {xs : List Cart} {ch cat : Int} {f : Flight} {p : Plate} (h : (putV xs ch f cat p).2.2 = 0) :
    Inv xs ∧ placeB ch f cat = true ∧ plB p = true ∧ countV xs p = 0 ∧
      ((∃ i c, xs[i]? = some c ∧ roomN xs ch f cat = i ∧ roomB c ch f cat = true ∧ putV xs ch f cat p = (xs.set i (addP c p), c.number, 0)) ∨
        (roomN xs ch f cat = xs.length ∧ xs.length ≠ 24 ∧ lastN xs ≠ 1048576 ∧ putV xs ch f cat p = (xs ++ [newC (lastN xs + 1) ch f cat p], lastN xs + 1, 0))) := by
  unfold putV at h ⊢
  by_cases h0 : chkL xs ≠ 0
  · rw [if_pos h0] at h; exact absurd h h0
  rw [if_neg h0] at h ⊢
  by_cases h1 : placeB ch f cat = false ∨ plB p = false
  · rw [if_pos h1] at h; cases h
  rw [if_neg h1] at h ⊢
  by_cases h2 : (findV xs p).2 = true
  · rw [if_pos h2] at h; cases h
  rw [if_neg h2] at h ⊢
  refine ⟨chkL_iff.1 (by simpa using h0), by simpa using fun e => h1 (.inl e), by simpa using fun e => h1 (.inr e), by rcases Nat.eq_zero_or_pos (countV xs p) with h | h; exact h; exact absurd (findV_count.2 h) h2, ?_⟩
  by_cases h3 : roomN xs ch f cat < xs.length
  · rw [if_pos h3]
    exact .inl ⟨_, _, ix_at h3, rfl, findIdx_at (f := fun c => roomB c ch f cat) h3, rfl⟩
  · rw [if_neg h3] at h ⊢
    by_cases h4 : xs.length = 24 ∨ lastN xs = 1048576
    · rw [if_pos h4] at h; cases h
    · rw [if_neg h4]
      have : roomN xs ch f cat ≤ xs.length := List.findIdx_le_length
      exact .inr ⟨by omega, fun e => h4 (.inl e), fun e => h4 (.inr e), rfl⟩
theorem room_inv {c : Cart} {ch cat : Int} {f : Flight} (h : roomB c ch f cat = true) : c.away = false ∧ c.chute = ch ∧ flEq c.flight f = true ∧ c.category = cat ∧ c.plates.length < 8 := by
  obtain ⟨⟨⟨⟨h2, h3⟩, h4⟩, h1⟩, h5⟩ := room_iff.1 h
  exact ⟨h1, h2, h3, h4, by omega⟩
theorem put_inv {xs : List Cart} {ch cat : Int} {f : Flight} {p : Plate} (h : (putV xs ch f cat p).2.2 = 0) : Inv (putV xs ch f cat p).1 := by
  obtain ⟨hI, hb, hp, h0, ⟨i, c, hi, -, hr, e⟩ | ⟨-, hl, hm, e⟩⟩ := putV_cases h
  · rw [e]
    have hr := room_inv hr
    exact addP_ok hI hi hp h0 hr.1 hr.2.2.2.2
  · rw [e]; exact newC_ok hI hb hp h0 hl hm
theorem sendV_cases {xs : List Cart} {n : Int} (h : (sendV xs n).2 = 0) : Inv xs ∧ ∃ i c, xs[i]? = some c ∧ c.number = n ∧ c.away = false ∧ c.plates ≠ [] ∧ sendV xs n = (xs.set i { c with away := true }, 0) := by
  unfold sendV at h ⊢
  by_cases h0 : chkL xs ≠ 0
  · rw [if_pos h0] at h; exact absurd h h0
  rw [if_neg h0] at h ⊢
  by_cases h1 : numI xs n < 0
  · rw [if_pos h1] at h; cases h
  rw [if_neg h1] at h ⊢
  have hn := num_lt h1
  by_cases h2 : (xs.getD (numN xs n) default).away = true ∨ (xs.getD (numN xs n) default).plates = []
  · rw [if_pos h2] at h; cases h
  rw [if_neg h2]
  exact ⟨chkL_iff.1 (by simpa using h0), _, _, ix_at hn.1, of_decide_eq_true (findIdx_at (f := numB n) hn.1), by simpa using fun e => h2 (.inl e), fun e => h2 (.inr e), rfl⟩
theorem send_inv {xs : List Cart} {n : Int} (h : (sendV xs n).2 = 0) : Inv (sendV xs n).1 := by
  obtain ⟨hI, i, c, hi, -, ha, hp, e⟩ := sendV_cases h
  rw [e]
  have hv := valid_inv (hI.val c (mem_i hi))
  exact inv_set hI hi rfl (valid_mk hv.1 hv.2.1 hv.2.2.1 hv.2.2.2.1 fun _ => hp) fun q => by
    have := hI.cnt q
    show countV xs q + c.plates.count q ≤ _
    omega
theorem takeV_cases {xs : List Cart} {p : Plate} (h : (takeV xs p).2 = 0) : Inv xs ∧ ∃ i c, xs[i]? = some c ∧ p ∈ c.plates ∧ onN xs p = i ∧ c.away = false ∧ takeV xs p = (xs.set i (delP c p), 0) := by
  unfold takeV at h ⊢
  by_cases h0 : chkL xs ≠ 0
  · rw [if_pos h0] at h; exact absurd h h0
  rw [if_neg h0] at h ⊢
  by_cases h1 : (findV xs p).2 = false
  · rw [if_pos h1] at h; cases h
  rw [if_neg h1] at h ⊢
  have hn := onN_lt.2 (findV_snd.1 (by simpa using h1))
  by_cases h2 : (xs.getD (onN xs p) default).away = true
  · rw [if_pos h2] at h; cases h
  rw [if_neg h2]
  exact ⟨chkL_iff.1 (by simpa using h0), _, _, ix_at hn, of_decide_eq_true (findIdx_at (f := hasP p) hn), rfl, by simpa using h2, rfl⟩
theorem count_filter_le (l : List Plate) (p q : Plate) : (l.filter (notP p)).count q ≤ l.count q := (List.filter_sublist).count_le _
theorem take_inv {xs : List Cart} {p : Plate} (h : (takeV xs p).2 = 0) : Inv (takeV xs p).1 := by
  obtain ⟨hI, i, c, hi, -, -, ha, e⟩ := takeV_cases h
  rw [e]
  have hv := valid_inv (hI.val c (mem_i hi))
  refine inv_set hI hi rfl (valid_mk hv.1 (Nat.le_trans (List.length_filter_le _ _) hv.2.1) (fun q hq => hv.2.2.1 q (List.mem_filter.1 hq).1) hv.2.2.2.1 fun h => by rw [show (delP c p).away = false from ha] at h; cases h) fun q => ?_
  have := hI.cnt q
  have h2 := count_filter_le c.plates p q
  show countV xs q + (c.plates.filter (notP p)).count q ≤ _
  omega
theorem kind_inv {c d : Cart} (h : ¬ kindB c d = true) : c.chute = d.chute ∧ flEq c.flight d.flight = true ∧ c.category = d.category := by
  unfold kindB at h
  simp only [Bool.or_eq_true, Bool.not_eq_true', decide_eq_false_iff_not, not_or, Decidable.not_not] at h
  exact ⟨h.1.1, by simpa using h.1.2, h.2⟩
theorem joinV_cases {xs : List Cart} {a b : Int} (h : (joinV xs a b).2 = 0) : Inv xs ∧ ∃ i k c d, xs[i]? = some c ∧ xs[k]? = some d ∧ i ≠ k ∧ c.number = a ∧ d.number = b ∧ c.away = false ∧ d.away = false ∧ (c.chute = d.chute ∧ flEq c.flight d.flight = true ∧ c.category = d.category) ∧ c.plates.length + d.plates.length ≤ 8 ∧
    joinV xs a b = ((xs.set k (catP d c)).eraseIdx i, 0) := by
  unfold joinV at h ⊢
  by_cases h0 : chkL xs ≠ 0
  · rw [if_pos h0] at h; exact absurd h h0
  rw [if_neg h0] at h ⊢
  by_cases h1 : ¬ (0 ≤ numI xs a ∧ 0 ≤ numI xs b)
  · rw [if_pos h1] at h; cases h
  rw [if_neg h1] at h ⊢
  have hna := num_lt (xs := xs) (n := a) (by omega)
  have hnb := num_lt (xs := xs) (n := b) (by omega)
  by_cases h2 : numN xs a = numN xs b
  · rw [if_pos h2] at h; cases h
  rw [if_neg h2] at h ⊢
  by_cases h3 : (xs.getD (numN xs a) default).away = true ∨ (xs.getD (numN xs b) default).away = true
  · rw [if_pos h3] at h; cases h
  rw [if_neg h3] at h ⊢
  by_cases h4 : kindB (xs.getD (numN xs a) default) (xs.getD (numN xs b) default) = true
  · rw [if_pos h4] at h; cases h
  rw [if_neg h4] at h ⊢
  by_cases h5 : (xs.getD (numN xs a) default).plates.length + (xs.getD (numN xs b) default).plates.length > 8
  · rw [if_pos h5] at h; cases h
  rw [if_neg h5]
  exact ⟨chkL_iff.1 (by simpa using h0), _, _, _, _, ix_at hna.1, ix_at hnb.1, h2, of_decide_eq_true (findIdx_at (f := numB a) hna.1), of_decide_eq_true (findIdx_at (f := numB b) hnb.1), by simpa using fun e => h3 (.inl e), by simpa using fun e => h3 (.inr e), kind_inv h4, by omega, rfl⟩
theorem join_inv {xs : List Cart} {a b : Int} (h : (joinV xs a b).2 = 0) : Inv (joinV xs a b).1 := by
  obtain ⟨hI, i, k, c, d, hi, hk, hne, -, -, ha, hb, -, hl, e⟩ := joinV_cases h
  rw [e]
  have hvc := valid_inv (hI.val c (mem_i hi))
  have hvd := valid_inv (hI.val d (mem_i hk))
  have hv : validB (catP d c) = true := valid_mk hvd.1 (by simp; omega) (fun q hq => (List.mem_append.1 hq).elim (hvd.2.2.1 q) (hvc.2.2.1 q)) hvd.2.2.2.1 fun h => by rw [show (catP d c).away = false from hb] at h; cases h
  refine ⟨?_, fun x hx => ?_, ?_, fun q => ?_⟩
  · have := hI.len
    have := List.length_eraseIdx_le (xs.set k (catP d c)) i
    rw [List.length_set] at this
    show ((xs.set k (catP d c)).eraseIdx i).length ≤ 24
    omega
  · rcases List.mem_or_eq_of_mem_set (List.mem_of_mem_eraseIdx hx) with h | h
    · exact hI.val x h
    · rw [h]; exact hv
  · exact (asc_set (c' := catP d c) hk rfl hI.asc).sublist (List.eraseIdx_sublist _ _)
  · have h1 := countV_erase (q := q) (xs := xs.set k (catP d c)) (i := i) (c := c) (by rw [List.getElem?_set_ne (fun e => hne e.symm)]; exact hi)
    have h2 := countV_set (q := q) (c' := catP d c) hk
    have h3 : (catP d c).plates.count q = d.plates.count q + c.plates.count q := List.count_append
    have := hI.cnt q
    show countV ((xs.set k (catP d c)).eraseIdx i) q ≤ 1
    omega
theorem inv_nil : Inv [] := ⟨by simp, by simp, by simp, by simp [countV]⟩
theorem inv_bd {xs : List Cart} (h : Inv xs) : xs.length ≤ 1000 ∧ ∀ c ∈ xs, c.plates.length ≤ 1000 := ⟨by have := h.len; omega, fun c hc => by have := (valid_inv (h.val c hc)).2.1; omega⟩
end Go.Proofs.Ytbbedhidiffdgaa
