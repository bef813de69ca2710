import Derived.Test.YtnedeajebhbjbaaFra
namespace Go.Proofs.Ytnedeajebhbjbaa

/-! ## the check number tells apart -/
theorem shN8_small {a b : UInt32} (h : shN 8 a = b) (hb : b.toNat < 16777216) : a = UInt32.ofNat (b.toNat * 256) := by
  have h1 := shN_shift 8 b.toNat (by omega)
  have h2 : UInt32.ofNat b.toNat = b := by simp
  rw [h2] at h1
  exact shN_inj 8 (h.trans h1.symm)
theorem ofNat_toNat32 (n : Nat) (h : n < 4294967296) : (UInt32.ofNat n).toNat = n := UInt32.toNat_ofNat_of_lt' h
theorem xor_lt32 {a b : UInt32} {k : Nat} (ha : a.toNat < 2 ^ k) (hb : b.toNat < 2 ^ k) : (a ^^^ b).toNat < 2 ^ k := by
  rw [UInt32.toNat_xor]; exact Nat.xor_lt_two_pow ha hb
theorem small8 (x : UInt8) : x.toUInt32.toNat < 256 := by have := x.toNat_lt; simpa using this
theorem stp_xor (r s : UInt32) (x y : UInt8) : stp r x ^^^ stp s y = shN 8 ((r ^^^ s) ^^^ (x ^^^ y).toUInt32) := by
  rw [stp, stp, ← shN_xor]
  congr 1
  have : (x ^^^ y).toUInt32 = x.toUInt32 ^^^ y.toUInt32 := by
    apply UInt32.toNat_inj.1; simp
  rw [this]
  rw [UInt32.xor_assoc, ← UInt32.xor_assoc x.toUInt32, UInt32.xor_comm x.toUInt32 s, UInt32.xor_assoc s, ← UInt32.xor_assoc r]
theorem xor8_zero {x y : UInt8} (h : (x ^^^ y).toUInt32.toNat = 0) : x = y := by
  have h1 : (x ^^^ y).toNat = 0 := by simpa using h
  have h2 : x ^^^ y = 0 := UInt8.toNat_inj.1 (by simpa using h1)
  exact UInt8.xor_eq_zero_iff.1 h2
theorem four_inj {r : UInt32} {x0 x1 x2 x3 y0 y1 y2 y3 : UInt8} (h : crc r [x0, x1, x2, x3] = crc r [y0, y1, y2, y3]) : x0 = y0 ∧ x1 = y1 ∧ x2 = y2 ∧ x3 = y3 := by
  simp only [crc, List.foldl_cons, List.foldl_nil] at h
  have e0 : stp r x0 ^^^ stp r y0 = shN 8 ((x0 ^^^ y0).toUInt32) := by rw [stp_xor]; simp
  have e1 := stp_xor (stp r x0) (stp r y0) x1 y1
  have e2 := stp_xor (stp (stp r x0) x1) (stp (stp r y0) y1) x2 y2
  have e3 := stp_xor (stp (stp (stp r x0) x1) x2) (stp (stp (stp r y0) y1) y2) x3 y3
  rw [h, UInt32.xor_self] at e3
  generalize stp r x0 ^^^ stp r y0 = d1 at *
  generalize stp (stp r x0) x1 ^^^ stp (stp r y0) y1 = d2 at *
  generalize stp (stp (stp r x0) x1) x2 ^^^ stp (stp (stp r y0) y1) y2 = d3 at *
  have s0 := small8 (x0 ^^^ y0)
  have s1 := small8 (x1 ^^^ y1)
  have s2 := small8 (x2 ^^^ y2)
  have s3 := small8 (x3 ^^^ y3)
  have z3 := xor8_zero (x := x3) (y := y3)
  have z2 := xor8_zero (x := x2) (y := y2)
  have z1 := xor8_zero (x := x1) (y := y1)
  have z0 := xor8_zero (x := x0) (y := y0)
  generalize (x0 ^^^ y0).toUInt32 = a0 at *
  generalize (x1 ^^^ y1).toUInt32 = a1 at *
  generalize (x2 ^^^ y2).toUInt32 = a2 at *
  generalize (x3 ^^^ y3).toUInt32 = a3 at *
  have h3 : d3 = a3 := UInt32.xor_eq_zero_iff.1 (shN_eq_zero 8 _ e3.symm)
  subst h3
  have h2 := shN8_small e2.symm (by omega)
  have hd2 : d2 = UInt32.ofNat (d3.toNat * 256) ^^^ a2 := by rw [← h2, UInt32.xor_assoc, UInt32.xor_self, UInt32.xor_zero]
  have b2 : d2.toNat < 2 ^ 16 := by
    rw [hd2]; exact xor_lt32 (by rw [ofNat_toNat32 _ (by omega)]; omega) (by omega)
  have h1 := shN8_small e1.symm (by omega)
  have hd1 : d1 = UInt32.ofNat (d2.toNat * 256) ^^^ a1 := by rw [← h1, UInt32.xor_assoc, UInt32.xor_self, UInt32.xor_zero]
  have b1 : d1.toNat < 2 ^ 24 := by
    rw [hd1]; exact xor_lt32 (by rw [ofNat_toNat32 _ (by omega)]; omega) (by omega)
  have h0 := shN8_small e0.symm (by omega)
  have t0 := congrArg UInt32.toNat h0
  rw [ofNat_toNat32 _ (by omega)] at t0
  have g1 : d1 = 0 := UInt32.toNat_inj.1 (by simp; omega)
  rw [g1] at h1
  have t1 := congrArg UInt32.toNat h1
  rw [UInt32.zero_xor, ofNat_toNat32 _ (by omega)] at t1
  have g2 : d2 = 0 := UInt32.toNat_inj.1 (by simp; omega)
  rw [g2] at h2
  have t2 := congrArg UInt32.toNat h2
  rw [UInt32.zero_xor, ofNat_toNat32 _ (by omega)] at t2
  have u1 : d1.toNat = 0 := by rw [g1]; rfl
  have u2 : d2.toNat = 0 := by rw [g2]; rfl
  exact ⟨z0 (by omega), z1 (by omega), z2 (by omega), z3 (by omega)⟩
theorem fourL_inj {a b : UInt32} (h : fourL a = fourL b) : a = b := by
  simp only [fourL, List.cons.injEq, and_true] at h
  obtain ⟨h1, h2, h3, h4⟩ := h
  have g : ∀ (x : UInt32) (k : UInt32) (m : Nat), k.toNat < 32 → 2 ^ k.toNat = m → ((x >>> k).toUInt8).toNat = x.toNat / m % 256 := by
    intro x k m hk hm
    rw [UInt32.toNat_toUInt8, UInt32.toNat_shiftRight, Nat.shiftRight_eq_div_pow, Nat.mod_eq_of_lt hk, hm]
  have t1 := congrArg UInt8.toNat h1
  have t2 := congrArg UInt8.toNat h2
  have t3 := congrArg UInt8.toNat h3
  have t4 := congrArg UInt8.toNat h4
  rw [g a 24 16777216 (by decide) (by decide), g b 24 16777216 (by decide) (by decide)] at t1
  rw [g a 16 65536 (by decide) (by decide), g b 16 65536 (by decide) (by decide)] at t2
  rw [g a 8 256 (by decide) (by decide), g b 8 256 (by decide) (by decide)] at t3
  rw [UInt32.toNat_toUInt8, UInt32.toNat_toUInt8] at t4
  have := a.toNat_lt
  have := b.toNat_lt
  apply UInt32.toNat_inj.1
  omega
theorem not_inj32 {a b : UInt32} (h : ~~~ a = ~~~ b) : a = b := by
  have := congrArg (~~~ ·) h
  simpa using this
theorem not_inj8 {a b : UInt8} (h : ~~~ a = ~~~ b) : a = b := by
  have := congrArg (~~~ ·) h
  simpa using this
set_option maxRecDepth 100000 in
theorem chk_idx {i j : Int} {l : List UInt8} (hi : 0 ≤ i) (hi2 : i < 4294967296) (hj : 0 ≤ j) (hj2 : j < 4294967296) (h : chk i l = chk j l) : i = j := by
  have h1 := crc_inj l (not_inj32 h)
  have h2 : fourL (u32 i) = fourL (u32 j) := by
    have := four_inj (r := 0xFFFFFFFF) (x0 := (u32 i >>> 24).toUInt8) (x1 := (u32 i >>> 16).toUInt8) (x2 := (u32 i >>> 8).toUInt8) (x3 := (u32 i).toUInt8) (y0 := (u32 j >>> 24).toUInt8) (y1 := (u32 j >>> 16).toUInt8) (y2 := (u32 j >>> 8).toUInt8) (y3 := (u32 j).toUInt8) h1
    simp [fourL, this.1, this.2.1, this.2.2.1, this.2.2.2]
  have h3 := congrArg UInt32.toNat (fourL_inj h2)
  have e1 := u32_mod i
  have e2 := u32_mod j
  rw [h3, ← e2] at e1
  omega
theorem chk_one {i : Int} {l m : List UInt8} {x y : UInt8} (h : chk i (l ++ x :: m) = chk i (l ++ y :: m)) : x = y := by
  have h1 := not_inj32 h
  rw [crc_append, crc_append] at h1
  have h2 := crc_inj m (show crc (stp _ x) m = crc (stp _ y) m from h1)
  generalize crc (crc 4294967295 (fourL (u32 i))) l = s at h2
  have h3 := stp_xor s s x y
  rw [h2, UInt32.xor_self, UInt32.xor_self, UInt32.zero_xor] at h3
  have := shN_eq_zero 8 _ h3.symm
  exact xor8_zero (by rw [this]; rfl)
theorem chk_four {i : Int} {l m : List UInt8} {x0 x1 x2 x3 y0 y1 y2 y3 : UInt8} (h : chk i (l ++ [x0, x1, x2, x3] ++ m) = chk i (l ++ [y0, y1, y2, y3] ++ m)) : x0 = y0 ∧ x1 = y1 ∧ x2 = y2 ∧ x3 = y3 := by
  have h1 := not_inj32 h
  rw [crc_append, crc_append, crc_append, crc_append] at h1
  exact four_inj (crc_inj m h1)

/-! ## one frame -/
theorem firstL_cons (i : Int) (h0 h1 h2 h3 : UInt8) (t : List UInt8) (n : Nat) (hn : h0.toNat * 256 + h1.toNat = n) : firstL i (h0 :: h1 :: h2 :: h3 :: t) =
    if t.length < 4 then none else if h0 ≠ ~~~ h2 then none else if h1 ≠ ~~~ h3 then none
    else if 4096 < n then none else if t.length < n + 4 then none
    else if (t.drop n).take 4 = fourL (chk i (t.take n)) then some (t.take n) else none := by
  have e1 : ((h0 :: h1 :: h2 :: h3 :: t).length < 8) = (t.length < 4) := by simp; omega
  have e2 : lenL (h0 :: h1 :: h2 :: h3 :: t) = n := hn
  have e3 : ((h0 :: h1 :: h2 :: h3 :: t).length < n + 8) = (t.length < n + 4) := by simp
  have e4 : tailL (h0 :: h1 :: h2 :: h3 :: t) n = (t.drop n).take 4 := by rw [tailL, Nat.add_comm 4 n]; rfl
  have e5 : recL (h0 :: h1 :: h2 :: h3 :: t) n = t.take n := rfl
  clear hn
  unfold firstL
  rw [e2]
  simp only [e1, e3, e4, e5]
  rfl
theorem frameL_eq (i : Int) (r : List UInt8) (t : List UInt8) : frameL i r ++ t = UInt8.ofNat (r.length / 256) :: UInt8.ofNat r.length :: ~~~ UInt8.ofNat (r.length / 256) :: ~~~ UInt8.ofNat r.length :: (r ++ (fourL (chk i r) ++ t)) := by
  simp [frameL]
theorem len_hdr (n : Nat) (h : n ≤ 4096) : (UInt8.ofNat (n / 256)).toNat * 256 + (UInt8.ofNat n).toNat = n := by
  simp; omega
theorem fourL_len (c : UInt32) : (fourL c).length = 4 := rfl
/-- What is read where the head of a frame is whole. -/
theorem firstL_head (i : Int) (r t : List UInt8) (n : Nat) (hn : n ≤ 4096) : firstL i (UInt8.ofNat (n / 256) :: UInt8.ofNat n :: ~~~ UInt8.ofNat (n / 256) :: ~~~ UInt8.ofNat n :: t) =
    if t.length < n + 4 then none else if (t.drop n).take 4 = fourL (chk i (t.take n)) then some (t.take n) else none := by
  rw [firstL_cons _ _ _ _ _ _ n (len_hdr n hn)]
  by_cases h1 : t.length < 4
  · rw [if_pos h1, if_pos (by omega)]
  · rw [if_neg h1, if_neg (by simp), if_neg (by simp), if_neg (by omega)]
theorem firstL_frame (i : Int) (r t : List UInt8) (hr : r.length ≤ 4096) : firstL i (frameL i r ++ t) = some r := by
  rw [frameL_eq, firstL_head i r _ _ hr, if_neg (by simp [fourL_len]), List.take_left', List.drop_left', List.take_left' (fourL_len _), if_pos rfl] <;> rfl
theorem firstL_nil (i : Int) : firstL i [] = none := by rw [firstL, if_pos (by simp)]
/-- A frame of another number is none. -/
theorem firstL_other {i j : Int} (r t : List UInt8) (hr : r.length ≤ 4096) (hi : 0 ≤ i) (hi2 : i < 4294967296) (hj : 0 ≤ j) (hj2 : j < 4294967296) (hne : i ≠ j) : firstL i (frameL j r ++ t) = none := by
  rw [frameL_eq, firstL_head i r _ _ hr, if_neg (by simp [fourL_len]), List.take_left' rfl, List.drop_left' rfl, List.take_left' (fourL_len _), if_neg]
  intro h
  exact hne (chk_idx hi hi2 hj hj2 (fourL_inj h).symm)
/-- A frame that is cut. -/
theorem firstL_cut (i : Int) (r : List UInt8) (k : Nat) (hr : r.length ≤ 4096) (hk : k < r.length + 8) : firstL i ((frameL i r).take k) = none := by
  have hl : ((frameL i r).take k).length = k := by rw [List.length_take, frameL_len]; omega
  by_cases h : k < 4
  · rw [firstL, if_pos (by omega)]
  · have e := frameL_eq i r []
    rw [List.append_nil, List.append_nil] at e
    obtain ⟨m, rfl⟩ : ∃ m, k = m + 4 := ⟨k - 4, by omega⟩
    rw [e]
    show firstL i (_ :: _ :: _ :: _ :: (r ++ fourL (chk i r)).take m) = none
    rw [firstL_head i r _ _ hr, if_pos]
    rw [List.length_take, List.length_append, fourL_len]
    omega

/-- One byte is changed. -/
def hit (l : List UInt8) (k : Nat) (x : UInt8) : List UInt8 := l.set k (l.getD k 0 ^^^ x)
theorem xor_ne {a x : UInt8} (h : x ≠ 0) : a ^^^ x ≠ a := by
  intro e
  apply h
  have := congrArg (a ^^^ ·) e
  simpa [← UInt8.xor_assoc] using this
theorem hit_append_left (l m : List UInt8) (k : Nat) (x : UInt8) (h : k < l.length) : hit (l ++ m) k x = hit l k x ++ m := by
  unfold hit
  rw [List.set_append_left _ _ h]
  congr 2
  simp [List.getD, h, List.getElem?_append_left h]
theorem hit_append_right (l m : List UInt8) (k : Nat) (x : UInt8) (h : l.length ≤ k) : hit (l ++ m) k x = l ++ hit m (k - l.length) x := by
  unfold hit
  rw [List.set_append_right _ _ h]
  congr 2
  simp [List.getD, List.getElem?_append_right h]
theorem hit_split (l : List UInt8) (k : Nat) (x : UInt8) (h : k < l.length) : ∃ p m, l = p ++ l.getD k 0 :: m ∧ hit l k x = p ++ (l.getD k 0 ^^^ x) :: m := by
  refine ⟨l.take k, l.drop (k + 1), ?_, ?_⟩
  · have : l.getD k 0 = l[k] := by simp [List.getD, h]
    rw [this]
    simp
  · unfold hit
    rw [List.set_eq_take_append_cons_drop, if_pos h]
theorem hit_len (l : List UInt8) (k : Nat) (x : UInt8) : (hit l k x).length = l.length := by simp [hit]
theorem firstL_hit (i : Int) (r t : List UInt8) (k : Nat) (x : UInt8) (hr : r.length ≤ 4096) (hk : k < r.length + 8) (hx : x ≠ 0) : firstL i (hit (frameL i r ++ t) k x) = none := by
  rw [frameL_eq]
  have hno : ∀ a : UInt8, a ^^^ x ≠ a := fun a => xor_ne hx
  have hno2 : ∀ a : UInt8, ¬ a = ~~~ ((~~~ a) ^^^ x) := fun a e => by
    have : ~~~ a = (~~~ a) ^^^ x := by
      have := congrArg (~~~ ·) e
      simpa using this
    exact hno _ this.symm
  match k with
  | 0 =>
    show firstL i ((UInt8.ofNat (r.length / 256) ^^^ x) :: _) = none
    rw [firstL_cons _ _ _ _ _ _ _ rfl]
    split; · rfl
    rw [if_pos]
    simpa using hno _
  | 1 =>
    show firstL i (_ :: (UInt8.ofNat r.length ^^^ x) :: _) = none
    rw [firstL_cons _ _ _ _ _ _ _ rfl]
    split; · rfl
    split; · rfl
    rw [if_pos]
    simpa using hno _
  | 2 =>
    show firstL i (_ :: _ :: ((~~~ UInt8.ofNat (r.length / 256)) ^^^ x) :: _) = none
    rw [firstL_cons _ _ _ _ _ _ _ rfl]
    split; · rfl
    rw [if_pos (hno2 _)]
  | 3 =>
    show firstL i (_ :: _ :: _ :: ((~~~ UInt8.ofNat r.length) ^^^ x) :: _) = none
    rw [firstL_cons _ _ _ _ _ _ _ rfl]
    split; · rfl
    split; · rfl
    rw [if_pos (hno2 _)]
  | k + 4 =>
    show firstL i (_ :: _ :: _ :: _ :: hit (r ++ (fourL (chk i r) ++ t)) k x) = none
    rw [firstL_head i r _ _ hr]
    split; · rfl
    rw [if_neg]
    by_cases h : k < r.length
    · rw [hit_append_left _ _ _ _ h]
      have hl := hit_len r k x
      rw [List.take_left' hl, List.drop_left' hl, List.take_left' (fourL_len _)]
      intro e
      obtain ⟨p, m, e1, e2⟩ := hit_split r k x h
      have := fourL_inj e
      rw [e2] at this
      conv at this => lhs; rw [e1]
      exact hno _ (chk_one this).symm
    · rw [hit_append_right _ _ _ _ (by omega), List.take_left' rfl, List.drop_left' rfl]
      rw [hit_append_left _ _ _ _ (by rw [fourL_len]; omega), List.take_left' (by rw [hit_len, fourL_len])]
      intro e
      obtain ⟨p, m, e1, e2⟩ := hit_split (fourL (chk i r)) (k - r.length) x (by rw [fourL_len]; omega)
      rw [e2] at e
      conv at e => rhs; rw [e1]
      have := List.append_cancel_left e
      injection this with this
      exact hno _ this

/-! ## whole journals -/
def joinF : Nat → List (List UInt8) → List UInt8
  | _, [] => []
  | i, r :: l => frameL i r ++ joinF (i + 1) l
theorem joinF_len (l : List (List UInt8)) : ∀ i, (joinF i l).length = posL l l.length := by
  induction l with
  | nil => intro i; rfl
  | cons r l ih =>
    intro i
    rw [joinF, List.length_append, frameL_len, ih]
    simp [posL]
theorem joinF_append (l m : List (List UInt8)) : ∀ i, joinF i (l ++ m) = joinF i l ++ joinF (i + l.length) m := by
  induction l with
  | nil => intro i; simp [joinF]
  | cons r l ih =>
    intro i
    rw [List.cons_append, joinF, joinF, ih, List.append_assoc]
    simp [Nat.add_assoc, Nat.add_comm 1]
theorem recsF_join (l : List (List UInt8)) : ∀ (f : Nat) (done : List (List UInt8)) (p : Nat) (b t : List UInt8), l.length < f → b.drop p = joinF done.length l ++ t → (∀ r ∈ l, r.length ≤ 4096) →
    p + (joinF done.length l).length ≤ 4194304 → firstL (done.length + l.length : Nat) t = none → recsF f done p b = (done ++ l, p + (joinF done.length l).length) := by
  induction l with
  | nil =>
    intro f done p b t hf hb _ _ ht
    cases f with
    | zero => simp at hf
    | succ f =>
      rw [recsF, hb]
      simp only [joinF, List.nil_append, List.append_nil, List.length_nil, Nat.add_zero] at ht ⊢
      rw [ht]
  | cons r l ih =>
    intro f done p b t hf hb hr hp ht
    cases f with
    | zero => simp at hf
    | succ f =>
      have hj : joinF done.length (r :: l) = frameL done.length r ++ joinF (done.length + 1) l := rfl
      have hrl := hr r (by simp)
      have hfl := firstL_frame done.length r (joinF (done.length + 1) l ++ t) hrl
      rw [hj, List.append_assoc] at hb
      rw [hj, List.length_append, frameL_len] at hp
      rw [recsF, hb, hfl]
      have hle : ¬ 4194304 < p + (r.length + 8) := by omega
      simp only [hle, if_false]
      have hd : b.drop (p + (r.length + 8)) = joinF (done ++ [r]).length l ++ t := by
        rw [← List.drop_drop, hb, List.drop_left' (frameL_len _ _)]
        simp
      rw [ih f (done ++ [r]) (p + (r.length + 8)) b t (by simp at hf; omega) hd (fun q hq => hr q (by simp [hq])) (by simp; omega) (by
        rw [List.length_append]; simp only [List.length_cons, List.length_nil] at ht ⊢
        rw [← ht]; congr 1; omega)]
      have e1 : (frameL done.length r ++ joinF (done.length + 1) l).length = r.length + 8 + (joinF (done.length + 1) l).length := by rw [List.length_append, frameL_len]
      have e2 : (done ++ [r]).length = done.length + 1 := by simp
      rw [hj, e1, e2, List.append_assoc, List.singleton_append, Nat.add_assoc]
theorem many_len (l : List (List UInt8)) (i : Nat) : l.length * 8 ≤ (joinF i l).length := by
  induction l generalizing i with
  | nil => simp
  | cons r l ih =>
    rw [joinF, List.length_append, frameL_len]
    have := ih (i + 1)
    simp; omega
theorem recs_join (l : List (List UInt8)) (t : List UInt8) (hr : ∀ r ∈ l, r.length ≤ 4096) (hp : (joinF 0 l).length ≤ 4194304) (ht : firstL (l.length : Nat) t = none) :
    recs (joinF 0 l ++ t) = (l, (joinF 0 l).length) := by
  have := many_len l 0
  have h := recsF_join l ((joinF 0 l ++ t).length + 1) [] 0 (joinF 0 l ++ t) t (by rw [List.length_append]; omega) rfl hr (by simpa using hp) (by simpa using ht)
  rw [recs, h]
  simp
theorem appR_join (l : List (List UInt8)) (r : List UInt8) (hr : ∀ q ∈ l, q.length ≤ 4096) (h0 : r.length ≤ 4096) (hp : (joinF 0 l).length + r.length + 8 ≤ 4194304) : appR (joinF 0 l) r = (joinF 0 (l ++ [r]), 0) := by
  have h := recs_join l [] hr (by omega) (firstL_nil _)
  rw [List.append_nil] at h
  rw [appR, h, if_neg (by simp), if_neg (by omega), joinF_append]
  simp [joinF]
theorem jrnF_join (m : List (List UInt8)) : ∀ l : List (List UInt8), (∀ q ∈ l ++ m, q.length ≤ 4096) → (joinF 0 (l ++ m)).length ≤ 4194304 → jrnF (joinF 0 l) m = some (joinF 0 (l ++ m)) := by
  induction m with
  | nil => intro l _ _; simp [jrnF]
  | cons r m ih =>
    intro l hr hp
    have e : l ++ r :: m = (l ++ [r]) ++ m := by simp
    have hp2 := hp
    rw [e, joinF_append, List.length_append] at hp2
    have hl : (joinF 0 (l ++ [r])).length = (joinF 0 l).length + r.length + 8 := by
      rw [joinF_append, List.length_append]; simp [joinF, frameL_len]; omega
    rw [jrnF, appR_join l r (fun q hq => hr q (by simp [hq])) (hr r (by simp)) (by omega)]
    simp only [if_true]
    rw [e] at hr hp ⊢
    exact ih (l ++ [r]) hr hp
theorem jrn_some (l : List (List UInt8)) (hr : ∀ q ∈ l, q.length ≤ 4096) (hp : posL l l.length ≤ 4194304) : jrnF [] l = some (joinF 0 l) := by
  have := jrnF_join l [] (by simpa using hr) (by simpa [joinF_len] using hp)
  simpa [joinF] using this
theorem posL_le (l : List (List UInt8)) (m : Nat) (h : ∀ r ∈ l, r.length ≤ m) : posL l l.length ≤ l.length * (m + 8) := by
  unfold posL
  rw [List.take_length]
  induction l with
  | nil => simp
  | cons r l ih =>
    have h1 := h r (by simp)
    have h2 := ih (fun q hq => h q (by simp [hq]))
    rw [List.map_cons, List.sum_cons, List.length_cons, Nat.succ_mul]
    omega
end Go.Proofs.Ytnedeajebhbjbaa
