import Derived.Test.YtngfknoddphhaaaLy
namespace Go.Proofs.Ytngfknoddphhaaa
open Go.RowKit
set_option linter.unusedSimpArgs false
set_option linter.unusedVariables false

/-! ### The laws of adding and removing -/
theorem sumW_perm {l m : List Piece} (h : l.Perm m) : sumW l = sumW m := by
  unfold sumW
  induction h with
  | nil => rfl
  | cons x _ ih => simp [ih]
  | swap x y l => simp; omega
  | trans _ _ h1 h2 => exact h1.trans h2
theorem hasB_iff {l : List Piece} {p : Plate} : hasB l p = true ↔ ∃ x ∈ l, x.plate = p := by unfold hasB; simp
theorem hasB_no {l : List Piece} {p : Plate} : hasB l p = false ↔ ∀ x ∈ l, x.plate ≠ p := by unfold hasB; simp
theorem found_has {l : List Piece} {p : Plate} (ha : AscP l) : foundP l p = hasB l p := by
  cases hb : hasB l p with
  | false => exact found_no (hasB_no.1 hb)
  | true =>
    obtain ⟨x, hx, e⟩ := hasB_iff.1 hb
    obtain ⟨i, hi, rfl⟩ := List.getElem_of_mem hx
    have hpos : posP l p = i := pos_eq (by omega) (fun j h hj => by
      rw [← e]; exact cmpP_lt.2 (List.pairwise_iff_getElem.1 ha j i h hi hj)) (fun j h hj hlt => by
      rw [← e] at hlt
      rcases Nat.lt_or_ge i j with h' | h'
      · exact PLt.irrefl _ ((cmpP_lt.1 hlt).trans (List.pairwise_iff_getElem.1 ha i j hi h h'))
      · obtain rfl : j = i := by omega
        exact PLt.irrefl _ (cmpP_lt.1 hlt))
    unfold foundP
    rw [hpos, List.getD_eq_getElem?_getD, List.getElem?_eq_getElem hi]
    simp [hi, e]
theorem val_asc {c : Container} (h : valC c = 0) : AscP c.pieces := ascP_iff.2 (val_inv h).2.2.2
theorem ins_pieces (c : Container) (p : Piece) : (insC c p).pieces = insL c.pieces p := rfl
theorem ins_val {c : Container} {p : Piece} (h : valC c = 0) (hp : piB p = true) (hn : hasB c.pieces p.plate = false) (hl : c.pieces.length < 60) : valC (insC c p) = 0 := by
  have hv := val_inv h
  have hperm := insL_perm c.pieces p
  refine val_intro hv.1 ?_ (fun x hx => ?_) (ascP_iff.1 (insL_asc (val_asc h) (hasB_no.1 hn)))
  · rw [ins_pieces, hperm.length_eq]; simp; omega
  · rcases List.mem_cons.1 (hperm.mem_iff.1 hx) with rfl | hx
    · exact hp
    · exact hv.2.2.1 x hx
theorem del_sub (c : Container) (p : Plate) : (delC c p).pieces.Sublist c.pieces := by
  show (c.pieces.take _ ++ c.pieces.drop _).Sublist c.pieces
  conv => rhs; rw [← List.take_append_drop (posP c.pieces p) c.pieces]
  exact (List.Sublist.refl _).append (List.drop_sublist_drop_left _ (Nat.le_succ _))
theorem del_val {c : Container} {p : Plate} (h : valC c = 0) : valC (delC c p) = 0 := by
  have hv := val_inv h
  have hs := del_sub c p
  exact val_intro hv.1 (Nat.le_trans hs.length_le hv.2.1) (fun x hx => hv.2.2.1 x (hs.subset hx)) (ascP_iff.1 ((val_asc h).sublist hs))
theorem val_nn {c : Container} (h : valC c = 0) {x : Piece} (hx : x ∈ c.pieces) : 1 ≤ x.weight := (piB_inv ((val_inv h).2.2.1 x hx)).2.1
theorem sumW_sub : ∀ {l m : List Piece}, l.Sublist m → (∀ x ∈ m, 1 ≤ x.weight) → sumW l ≤ sumW m
  | _, _, .slnil, _ => Int.le_refl _
  | _, _, .cons a h, hm => by
    have := sumW_sub h fun x hx => hm x (by simp [hx])
    have := hm a (by simp)
    unfold sumW at *
    simp; omega
  | _, _, .cons_cons a h, hm => by
    have := sumW_sub h fun x hx => hm x (by simp [hx])
    unfold sumW at *
    simp; omega
theorem over_no {c : Container} (h : valC c = 0) : overC c = false ↔ (∀ x ∈ c.pieces, bitB c.categories x.category = true) ∧ sumW c.pieces ≤ c.limit ∧ (c.pieces.length : Int) ≤ c.most := by
  unfold overC weightC
  simp only [h, ne_eq, not_true_eq_false, if_false]
  by_cases hb : (c.pieces.all fun p => bitB c.categories p.category) = true
  · rw [if_neg (by simp [hb])]
    simp at hb
    simp
    exact fun _ _ => hb
  · rw [if_pos (by simpa using hb)]
    simp at hb
    obtain ⟨x, hx, hb⟩ := hb
    simp
    intro hall
    rw [hall x hx] at hb
    cases hb
/-- A container as the law has it. -/
structure Lim (c : Container) : Prop where
  val : valC c = 0
  no : overC c = false
  most : c.most ≤ 8
theorem Lim.len {c : Container} (h : Lim c) : c.pieces.length ≤ 8 := by
  have := ((over_no h.val).1 h.no).2.2
  have := h.most
  omega
theorem Lim.rem {c : Container} {p : Plate} (h : Lim c) : ((remC c p).2 = 0 ∧ hasB c.pieces p = true ∧ Lim (remC c p).1) ∨ ((remC c p).2 = 6 ∧ hasB c.pieces p = false) := by
  unfold remC
  rw [if_neg (by simp [h.val]), found_has (val_asc h.val)]
  cases hb : hasB c.pieces p with
  | false => right; simp
  | true =>
    left
    have ho := (over_no h.val).1 h.no
    have hs := del_sub c p
    refine ⟨rfl, rfl, del_val h.val, (over_no (del_val h.val)).2 ⟨fun x hx => ho.1 x (hs.subset hx), Int.le_trans (sumW_sub hs fun x hx => val_nn h.val hx) ho.2.1, ?_⟩, h.most⟩
    have := hs.length_le
    show (((delC c p).pieces.length : Nat) : Int) ≤ c.most
    omega
theorem put_eq {c : Container} {p : Piece} {lim : Bool} (h : valC c = 0) (hp : piB p = true) : putC c p lim = if foundP c.pieces p.plate = true then (zeroC, 5)
  else if (lim && !bitB c.categories p.category) = true then (zeroC, 4) else if (lim && fullB c p) = true then (zeroC, 8)
  else if (c.pieces.length : Int) ≥ 60 then (zeroC, 2) else (insC c p, 0) := by
  unfold putC
  rw [if_neg (by simp [h]), if_neg (by simp [hp])]
theorem Lim.add {c : Container} {p : Piece} (h : Lim c) (hp : piB p = true) :
    ((putC c p true).2 = 5 ∧ (putC c p false).2 = 5 ∧ hasB c.pieces p.plate = true) ∨
    ((putC c p true).2 = 0 ∧ (putC c p false).2 = 0 ∧ (putC c p true).1 = (putC c p false).1 ∧ hasB c.pieces p.plate = false ∧ Lim (putC c p true).1) ∨
    ((putC c p true).2 ≠ 0 ∧ (putC c p false).2 = 0 ∧ overC (putC c p false).1 = true ∧ hasB c.pieces p.plate = false) := by
  have hl := h.len
  rw [put_eq h.val hp, put_eq h.val hp, found_has (val_asc h.val)]
  cases hb : hasB c.pieces p.plate with
  | true => left; simp
  | false =>
    right
    have hiv := ins_val h.val hp hb (by omega)
    have hperm := insL_perm c.pieces p
    have ho := (over_no h.val).1 h.no
    have hsum : sumW (insL c.pieces p) = p.weight + sumW c.pieces := by rw [sumW_perm hperm]; simp [sumW]
    have hlen : (insL c.pieces p).length = c.pieces.length + 1 := by rw [hperm.length_eq]; rfl
    have hin : ∀ x, x ∈ insL c.pieces p ↔ x = p ∨ x ∈ c.pieces := fun x => by rw [hperm.mem_iff]; simp
    have e2 : (if (c.pieces.length : Int) ≥ 60 then (zeroC, 2) else (insC c p, 0)) = (insC c p, (0 : Int)) := by rw [if_neg (by omega)]
    simp only [Bool.false_and, Bool.false_eq_true, if_false, Bool.true_and]
    rw [e2]
    by_cases hbit : bitB c.categories p.category = true
    · rw [if_neg (by simp [hbit])]
      by_cases hf : fullB c p = true
      · rw [if_pos hf]
        right
        refine ⟨by simp, rfl, ?_, trivial⟩
        cases hov : overC (insC c p) with
        | true => rfl
        | false =>
          obtain ⟨-, q2, q3⟩ := (over_no hiv).1 hov
          rw [ins_pieces, hsum] at q2
          rw [ins_pieces, hlen] at q3
          unfold fullB at hf
          simp at hf
          have : (insC c p).limit = c.limit := rfl
          have : (insC c p).most = c.most := rfl
          omega
      · rw [if_neg hf]
        left
        refine ⟨rfl, rfl, rfl, trivial, hiv, (over_no hiv).2 ⟨fun x hx => ?_, ?_, ?_⟩, h.most⟩
        · rcases (hin x).1 hx with rfl | hx
          · exact hbit
          · exact ho.1 x hx
        · unfold fullB at hf
          simp at hf
          rw [ins_pieces, hsum]
          show _ ≤ c.limit
          omega
        · unfold fullB at hf
          simp at hf
          rw [ins_pieces, hlen]
          show _ ≤ c.most
          omega
    · rw [if_pos (by simpa using hbit)]
      right
      refine ⟨by simp, rfl, ?_, trivial⟩
      cases hov : overC (insC c p) with
      | true => rfl
      | false =>
        have := ((over_no hiv).1 hov).1 p (by rw [ins_pieces, hin]; exact .inl rfl)
        exact absurd this hbit
theorem put_len {c : Container} {p : Piece} {b : Bool} (h : c.pieces.length ≤ 60) : (putC c p b).1.pieces.length ≤ 1000000000 := by
  unfold putC
  repeat' split
  all_goals first | (show (0 : Nat) ≤ _; omega) | (rw [ins_pieces, (insL_perm _ _).length_eq]; simp; omega)
theorem plates_ok (x : Int) : plB (platesP x) = true := by
  have h1 := gmod_bd (x := x) (n := 1000) (by decide)
  unfold plB platesP
  generalize gmod x 1000 = a at *
  have e : ∀ {a b c d e f : Prop} [Decidable a] [Decidable b] [Decidable c] [Decidable d] [Decidable e] [Decidable f], a → b → c → d → e → f → (((((decide a && decide b) && decide c) && decide d) && decide e) && decide f) = true := fun h1 h2 h3 h4 h5 h6 => by simp [h1, h2, h3, h4, h5, h6]
  refine e ?_ ?_ ?_ ?_ ?_ ?_ <;> dsimp only <;> omega
theorem piece_ok (l : List Int) (k : Nat) {n : Int} : piB (pieceV l k n) = true := by
  have h2 := gmod_bd (x := rawV l (rawN l k)) (n := 40) (by decide)
  have h3 : pickV l (rawN l (rawN l k)) catsL ∈ catsL := pickV_mem (by decide)
  have h4 : 0 ≤ pickV l (rawN l (rawN l k)) catsL ∧ pickV l (rawN l (rawN l k)) catsL ≤ 4 := by
    simp at h3; omega
  have e : ∀ {a b c d : Prop} [Decidable a] [Decidable b] [Decidable c] [Decidable d], a → b → c → d → ((true && (decide a && decide b)) && (decide c && decide d)) = true := fun h1 h2 h3 h4 => by simp [h1, h2, h3, h4]
  unfold piB inB
  rw [show plB (pieceV l k n).plate = true from plates_ok _]
  refine e ?_ ?_ ?_ ?_ <;> dsimp only [pieceV] <;> omega
theorem Lim.zero {a b m : Int} (h1 : 0 ≤ a ∧ a < 32) (h2 : 0 ≤ b ∧ b < 200) (h3 : 0 ≤ m ∧ m < 9) : Lim ⟨7, flight0, a, b, m, 0, 0, []⟩ := by
  have hv : valC (⟨7, flight0, a, b, m, 0, 0, []⟩ : Container) = 0 := by
    refine val_intro ?_ (by simp) (by simp) (by unfold Asc; simp)
    have : flB flight0 = true := by kernel_rfl
    unfold coB inB
    rw [this]
    simp
    omega
  exact ⟨hv, (over_no hv).2 ⟨by simp, by show (0 : Int) ≤ b; omega, by show (0 : Int) ≤ m; omega⟩, by show m ≤ 8; omega⟩
end Go.Proofs.Ytngfknoddphhaaa
