import Derived.Test.YtngfknoddphhaaaMc
namespace Go.Proofs.Ytngfknoddphhaaa
open Go.RowKit
set_option linter.unusedSimpArgs false
set_option linter.unusedVariables false

/-! ### Removing and forcing again -/
theorem pos_at {l : List Piece} (ha : AscP l) {i : Nat} (hi : i < l.length) : posP l l[i].plate = i :=
  pos_eq (by omega) (fun j h hj => cmpP_lt.2 (List.pairwise_iff_getElem.1 ha j i h hi hj)) (fun j h hj hlt => by
    rcases Nat.lt_or_ge i j with h' | h'
    · exact PLt.irrefl _ ((cmpP_lt.1 hlt).trans (List.pairwise_iff_getElem.1 ha i j hi h h'))
    · obtain rfl : j = i := by omega
      exact PLt.irrefl _ (cmpP_lt.1 hlt))
def delL (l : List Piece) (p : Plate) : List Piece := l.take (posP l p) ++ l.drop (posP l p + 1)
theorem del_perm {l : List Piece} (ha : AscP l) {x : Piece} (hx : x ∈ l) : l.Perm (x :: delL l x.plate) := by
  obtain ⟨i, hi, rfl⟩ := List.getElem_of_mem hx
  unfold delL
  rw [pos_at ha hi]
  have := List.perm_middle (a := l[i]) (l₁ := l.take i) (l₂ := l.drop (i + 1))
  rwa [← List.drop_eq_getElem_cons hi, List.take_append_drop] at this
theorem delL_sub (l : List Piece) (p : Plate) : (delL l p).Sublist l := by
  unfold delL
  conv => rhs; rw [← List.take_append_drop (posP l p) l]
  exact (List.Sublist.refl _).append (List.drop_sublist_drop_left _ (Nat.le_succ _))
theorem del_no {l : List Piece} (ha : AscP l) {x : Piece} (hx : x ∈ l) : hasB (delL l x.plate) x.plate = false := by
  have h := (del_perm ha hx).pairwise_iff (R := fun a b : Piece => a.plate ≠ b.plate) (fun {a b} hab => Ne.symm hab)
  have h2 := h.1 (asc_ne ha)
  exact hasB_no.2 fun y hy => ((List.pairwise_cons.1 h2).1 y hy).symm
theorem del_ins {l : List Piece} (ha : AscP l) {x : Piece} (hx : x ∈ l) : insL (delL l x.plate) x = l := by
  have h1 : AscP (delL l x.plate) := ha.sublist (delL_sub _ _)
  exact ascP_perm (insL_asc h1 (hasB_no.1 (del_no ha hx))) ha ((insL_perm _ _).trans (del_perm ha hx).symm)
theorem ins_del {l : List Piece} (ha : AscP l) {p : Piece} (hn : hasB l p.plate = false) : delL (insL l p) p.plate = l := by
  have h1 := insL_asc ha (hasB_no.1 hn)
  have h2 := del_perm h1 (x := p) ((insL_perm l p).mem_iff.2 (by simp))
  have h3 : (delL (insL l p) p.plate).Perm l := (List.perm_cons p).1 (h2.symm.trans (insL_perm l p))
  exact ascP_perm (h1.sublist (delL_sub _ _)) ha h3
theorem rem_force {c : Container} {q : Piece} (h : valC c = 0) (hq : q ∈ c.pieces) : ∃ d, remC c q.plate = (d, 0) ∧ putC d q false = (c, 0) ∧ d.pieces.length + 1 = c.pieces.length := by
  have ha := val_asc h
  have hv := val_inv h
  have hl : (delC c q.plate).pieces.length + 1 = c.pieces.length := ((del_perm ha hq).length_eq).symm
  have hn : hasB (delC c q.plate).pieces q.plate = false := del_no ha hq
  refine ⟨delC c q.plate, ?_, ?_, hl⟩
  · unfold remC
    rw [if_neg (by simp [h]), if_neg (by rw [found_has ha, hasB_iff.2 ⟨q, hq, rfl⟩]; simp)]
  · rw [put_eq (del_val h) (hv.2.2.1 q hq), found_has (val_asc (del_val h)), hn, if_neg (by simp), if_neg (by simp), if_neg (by simp), if_neg (by omega)]
    have e : insC (delC c q.plate) q = c := by
      show ({ c with pieces := insL (delL c.pieces q.plate) q } : Container) = c
      rw [del_ins ha hq]
    rw [e]
theorem force_rem {c : Container} {p : Piece} (h : valC c = 0) (hp : piB p = true) (hn : hasB c.pieces p.plate = false) (hl : c.pieces.length < 60) : putC c p false = (insC c p, 0) ∧ remC (insC c p) p.plate = (c, 0) ∧ (insC c p).pieces.length = c.pieces.length + 1 ∧ hasB (insC c p).pieces p.plate = true := by
  have ha := val_asc h
  have hiv := ins_val h hp hn hl
  have hh : hasB (insC c p).pieces p.plate = true := hasB_iff.2 ⟨p, (insL_perm _ _).mem_iff.2 (by simp), rfl⟩
  refine ⟨?_, ?_, (insL_perm _ _).length_eq, hh⟩
  · rw [put_eq h hp, found_has ha, hn, if_neg (by simp), if_neg (by simp), if_neg (by simp), if_neg (by omega)]
  · unfold remC
    rw [if_neg (by simp [hiv]), if_neg (by rw [found_has (val_asc hiv), hh]; simp)]
    have e : delC (insC c p) p.plate = c := by
      show ({ c with pieces := delL (insL c.pieces p) p.plate } : Container) = c
      rw [ins_del ha hn]
    rw [e]
theorem add_force {c : Container} {p : Piece} (h : valC c = 0) (hp : piB p = true) (hn : hasB c.pieces p.plate = false) (h0 : (putC c p true).2 = 0) : (putC c p true).1 = insC c p := by
  rw [put_eq h hp, found_has (val_asc h), hn] at h0 ⊢
  rw [if_neg (by simp)] at h0 ⊢
  split at h0
  · simp at h0
  · rename_i h1
    rw [if_neg h1]
    split at h0
    · simp at h0
    · rename_i h2
      rw [if_neg h2]
      split at h0
      · simp at h0
      · rename_i h3
        rw [if_neg h3]
theorem rem_len {c : Container} {p : Plate} : (remC c p).1.pieces.length ≤ c.pieces.length := by
  unfold remC
  split
  · exact Nat.zero_le _
  · split
    · exact Nat.zero_le _
    · exact (delL_sub _ _).length_le
/-! ### What the source's containers are -/
structure InvA (num : Int) (cs : List Container) : Prop where
  co : ∀ c ∈ cs, coB c = true
  nil : ∀ c ∈ cs, c.pieces = []
  le : ∀ c ∈ cs, c.number ≤ num
  asc : cs.Pairwise fun c d => c.number < d.number
  pos : ∀ (i : Nat) (h : i < cs.length), cs[i].position = 0 ∨ cs[i].position = i + 1
theorem flB_N {x : Int} (h : 0 ≤ x ∧ x < 3) : flB (flightN x) = true := by
  rcases (by omega : x = 0 ∨ x = 1 ∨ x = 2) with rfl | rfl | rfl <;> kernel_rfl
theorem coB_intro {c : Container} (h1 : 1 ≤ c.number ∧ c.number ≤ 999) (h2 : flB c.flight = true) (h3 : 0 ≤ c.categories ∧ c.categories ≤ 31) (h4 : 0 ≤ c.limit ∧ c.limit ≤ 20000) (h5 : 0 ≤ c.most ∧ c.most ≤ 60) (h6 : 0 ≤ c.position ∧ c.position ≤ 24) (h7 : -50 ≤ c.arm ∧ c.arm ≤ 50) : coB c = true := by
  unfold coB inB
  rw [h2]
  simp
  omega
theorem conA_ok {l : List Int} {k : Nat} {num pos : Int} (h1 : 0 ≤ num ∧ num ≤ 900) (h2 : 0 ≤ pos ∧ pos ≤ 24) : coB (conA l k num pos) = true := by
  have hg1 := gmod_bd (x := rawV l k) (n := 2) (by decide)
  have hg2 := gmod_bd (x := rawV l (rawN l k)) (n := 3) (by decide)
  have hg3 := gmod_bd (x := rawV l (nx3 l k)) (n := 300) (by decide)
  have hg4 := gmod_bd (x := rawV l (nx4 l k)) (n := 10) (by decide)
  have hg5 := gmod_bd (x := rawV l (nx5 l k)) (n := 21) (by decide)
  have hm : pickV l (nx2 l k) mask6 ∈ mask6 := pickV_mem (by decide)
  have hm2 : 0 ≤ pickV l (nx2 l k) mask6 ∧ pickV l (nx2 l k) mask6 ≤ 31 := by simp at hm; omega
  refine coB_intro ?_ (flB_N hg2) hm2 ?_ ?_ h2 ?_ <;> dsimp only [conA] <;> omega
theorem InvA.step {num : Int} {cs : List Container} (h : InvA num cs) (l : List Int) (k : Nat) {pos : Int} (h1 : 0 ≤ num ∧ num ≤ 900) (hl : cs.length ≤ 23) (hp : pos = 0 ∨ pos = cs.length + 1) : InvA (num + (1 + gmod (rawV l k) 2)) (cs ++ [conA l k num pos]) := by
  have hg1 := gmod_bd (x := rawV l k) (n := 2) (by decide)
  refine ⟨fun c hc => ?_, fun c hc => ?_, fun c hc => ?_, ?_, fun i hi => ?_⟩
  · rcases List.mem_append.1 hc with hc | hc
    · exact h.co c hc
    · obtain rfl : c = _ := by simpa using hc
      exact conA_ok h1 (by omega)
  · rcases List.mem_append.1 hc with hc | hc
    · exact h.nil c hc
    · obtain rfl : c = _ := by simpa using hc
      rfl
  · rcases List.mem_append.1 hc with hc | hc
    · have := h.le c hc; omega
    · obtain rfl : c = _ := by simpa using hc
      exact Int.le_refl _
  · refine List.pairwise_append.2 ⟨h.asc, List.pairwise_singleton _ _, fun a ha b hb => ?_⟩
    obtain rfl : b = _ := by simpa using hb
    have := h.le a ha
    show a.number < num + (1 + gmod (rawV l k) 2)
    omega
  · by_cases hi' : i < cs.length
    · rw [List.getElem_append_left hi']; exact h.pos i hi'
    · have : i = cs.length := by simp at hi; omega
      subst this
      simp
      exact hp
theorem ph1_inv (l : List Int) : ∀ (f k : Nat) (num : Int) (cs : List Container), InvA num cs → 0 ≤ num → num ≤ 2 * cs.length → cs.length + f ≤ 24 → ∃ num', InvA num' (ph1 l f k num cs).2 ∧ (ph1 l f k num cs).2.length = cs.length + f
  | 0, k, num, cs, h, _, _, _ => ⟨num, h, rfl⟩
  | f + 1, k, num, cs, h, h0, h1, h2 => by
    have hg1 := gmod_bd (x := rawV l k) (n := 2) (by decide)
    unfold ph1
    obtain ⟨num', h3, h4⟩ := ph1_inv l f (nx7 l k) (num + (1 + gmod (rawV l k) 2)) (cs ++ [conA l k num (if gmod (rawV l (nx6 l k)) 3 > 0 then cs.length + 1 else 0)]) (h.step l k (by omega) (by omega) (by split <;> omega)) (by omega) (by simp; omega) (by simp; omega)
    exact ⟨num', h3, by rw [h4]; simp; omega⟩
structure InvB (i : Nat) (cs : List Container) : Prop where
  co : ∀ c ∈ cs, coB c = true
  asc : cs.Pairwise fun c d => c.number < d.number
  pos : ∀ (i : Nat) (h : i < cs.length), cs[i].position = 0 ∨ cs[i].position = i + 1
  pasc : ∀ c ∈ cs, AscP c.pieces
  pok : ∀ c ∈ cs, ∀ x ∈ c.pieces, piB x = true
  below : ∀ c ∈ cs, ∀ x ∈ c.pieces, x.plate.lead = 0 ∧ x.plate.airline = 117 ∧ x.plate.serial < 1000 + i
  len : ∀ c ∈ cs, c.pieces.length ≤ 20
  disj : cs.Pairwise fun c d => ∀ x ∈ c.pieces, ∀ y ∈ d.pieces, x.plate ≠ y.plate
theorem InvA.b {num : Int} {cs : List Container} (h : InvA num cs) : InvB 0 cs :=
  ⟨h.co, h.asc, h.pos, fun c hc => by rw [h.nil c hc]; exact List.Pairwise.nil, fun c hc x hx => by rw [h.nil c hc] at hx; simp at hx, fun c hc x hx => by rw [h.nil c hc] at hx; simp at hx, fun c hc => by rw [h.nil c hc]; simp,
    List.pairwise_iff_getElem.2 fun i j hi hj _ x hx => by rw [h.nil _ (List.getElem_mem hi)] at hx; simp at hx⟩
theorem InvB.skip {i : Nat} {cs : List Container} (h : InvB i cs) : InvB (i + 1) cs :=
  ⟨h.co, h.asc, h.pos, h.pasc, h.pok, fun c hc x hx => by have := h.below c hc x hx; omega, h.len, h.disj⟩
theorem InvB.val {i : Nat} {cs : List Container} (h : InvB i cs) {c : Container} (hc : c ∈ cs) : valC c = 0 :=
  val_intro (h.co c hc) (by have := h.len c hc; omega) (h.pok c hc) (ascP_iff.1 (h.pasc c hc))
theorem InvB.add {i : Nat} {cs : List Container} (h : InvB i cs) (hi : i < 100) {q : Nat} (hq : q < cs.length) {p : Piece} (hpp : p.plate = platesP i) (hp : piB p = true) (hl : cs[q].pieces.length < 20) : InvB (i + 1) (cs.set q (addP cs[q] p)) := by
  have hpl := plates_lt (i := i) hi
  have hqm := List.getElem_mem hq
  have hin : ∀ c ∈ cs.set q (addP cs[q] p), c ∈ cs ∨ c = addP cs[q] p := fun c hc => List.mem_or_eq_of_mem_set hc
  have hnew : ∀ c ∈ cs, ∀ x ∈ c.pieces, PLt x.plate p.plate := fun c hc x hx => by
    obtain ⟨h1, h2, h3⟩ := h.below c hc x hx
    rw [hpp, hpl]; unfold PLt; simp only; omega
  have hpc : ∀ x ∈ (addP cs[q] p).pieces, x ∈ cs[q].pieces ∨ x = p := fun x hx => by
    rcases List.mem_append.1 hx with hx | hx
    · exact .inl hx
    · exact .inr (by simpa using hx)
  have hnum : ∀ (j : Nat) (hj : j < (cs.set q (addP cs[q] p)).length), (cs.set q (addP cs[q] p))[j].number = (cs[j]'(by simpa using hj)).number := fun j hj => by
    rw [List.getElem_set]
    split
    · rename_i e; subst e; rfl
    · rfl
  have hpos : ∀ (j : Nat) (hj : j < (cs.set q (addP cs[q] p)).length), (cs.set q (addP cs[q] p))[j].position = (cs[j]'(by simpa using hj)).position := fun j hj => by
    rw [List.getElem_set]
    split
    · rename_i e; subst e; rfl
    · rfl
  refine ⟨fun c hc => ?_, ?_, fun j hj => ?_, fun c hc => ?_, fun c hc x hx => ?_, fun c hc x hx => ?_, fun c hc => ?_, ?_⟩
  · rcases hin c hc with hc | rfl
    · exact h.co c hc
    · exact (show coB cs[q] = true from h.co _ hqm)
  · refine List.pairwise_iff_getElem.2 fun a b ha hb hab => ?_
    have := List.pairwise_iff_getElem.1 h.asc a b (by simpa using ha) (by simpa using hb) hab
    rw [hnum, hnum]
    exact this
  · have := h.pos j (by simpa using hj)
    rw [hpos]
    exact this
  · rcases hin c hc with hc | rfl
    · exact h.pasc c hc
    · refine List.pairwise_append.2 ⟨h.pasc _ hqm, List.pairwise_singleton _ _, fun a ha b hb => ?_⟩
      obtain rfl : b = _ := by simpa using hb
      exact hnew _ hqm a ha
  · rcases hin c hc with hc | rfl
    · exact h.pok c hc x hx
    · rcases hpc x hx with hx | rfl
      · exact h.pok _ hqm x hx
      · exact hp
  · rcases hin c hc with hc | rfl
    · have := h.below c hc x hx; omega
    · rcases hpc x hx with hx | rfl
      · have := h.below _ hqm x hx; omega
      · rw [hpp, hpl]; exact ⟨rfl, rfl, by dsimp only; omega⟩
  · rcases hin c hc with hc | rfl
    · exact h.len c hc
    · unfold addP; simp; omega
  · refine List.pairwise_iff_getElem.2 fun a b ha hb hab => ?_
    have ha' : a < cs.length := by simpa using ha
    have hb' : b < cs.length := by simpa using hb
    have h0 := List.pairwise_iff_getElem.1 h.disj a b ha' hb' hab
    rw [List.getElem_set, List.getElem_set]
    split
    · rename_i e
      subst e
      rw [if_neg (by omega)]
      intro x hx y hy
      rcases hpc x hx with hx | rfl
      · exact h0 x hx y hy
      · intro e; have := hnew _ (List.getElem_mem hb') y hy; rw [e] at this; exact PLt.irrefl _ this
    · split
      · rename_i e
        subst e
        intro x hx y hy
        rcases hpc y hy with hy | rfl
        · exact h0 x hx y hy
        · intro e; have := hnew _ (List.getElem_mem ha') x hx; rw [e] at this; exact PLt.irrefl _ this
      · exact h0
theorem pieA_ok (l : List Int) (i k : Nat) : piB (pieA l i k) = true := by
  have h2 := gmod_bd (x := rawV l (nx2 l k)) (n := 30) (by decide)
  have h3 : pickV l (nx3 l k) cat8 ∈ cat8 := pickV_mem (by decide)
  have h4 : 0 ≤ pickV l (nx3 l k) cat8 ∧ pickV l (nx3 l k) cat8 ≤ 4 := by
    simp at h3; omega
  have e : ∀ {a b c d : Prop} [Decidable a] [Decidable b] [Decidable c] [Decidable d], a → b → c → d → ((true && (decide a && decide b)) && (decide c && decide d)) = true := fun h1 h2 h3 h4 => by simp [h1, h2, h3, h4]
  unfold piB inB
  rw [show plB (pieA l i k).plate = true from plates_ok _]
  refine e ?_ ?_ ?_ ?_ <;> dsimp only [pieA] <;> omega
theorem ph2_inv (l : List Int) : ∀ (f i k : Nat) (cs : List Container), InvB i cs → i + f ≤ 100 → 1 ≤ cs.length → InvB (i + f) (ph2 l f i k cs).2 ∧ (ph2 l f i k cs).2.length = cs.length
  | 0, i, k, cs, h, _, _ => ⟨h, rfl⟩
  | f + 1, i, k, cs, h, hi, h1 => by
    unfold ph2
    rw [show i + (f + 1) = (i + 1) + f by omega]
    split
    · exact ph2_inv l f (i + 1) _ cs h.skip (by omega) h1
    · split
      · rename_i hlt
        have hq := idxV_lt l (rawN l k) h1
        have e : cs.getD (idxV l (rawN l k) cs.length) default = cs[idxV l (rawN l k) cs.length] := by rw [List.getD_eq_getElem?_getD, List.getElem?_eq_getElem hq]; rfl
        rw [e] at hlt ⊢
        have := ph2_inv l f (i + 1) (nx4 l k) _ (h.add (by omega) hq (p := pieA l i k) rfl (pieA_ok l i k) (by omega)) (by omega) (by simpa using h1)
        rw [List.length_set] at this
        exact this
      · exact ph2_inv l f (i + 1) _ cs h.skip (by omega) h1
theorem conts_inv (l : List Int) (k m n : Nat) (hm : m ≤ 23) (hn : n ≤ 100) : InvB n (contsV l k m n).2 ∧ (contsV l k m n).2.length = idxV l k (m + 1) := by
  have hk := idxV_lt l k (n := m + 1) (by omega)
  obtain ⟨num, h1, h2⟩ := ph1_inv l (idxV l k (m + 1)) (rawN l k) 0 [] ⟨by simp, by simp, by simp, List.Pairwise.nil, fun i h => by simp at h⟩ (by omega) (by simp) (by simp; omega)
  unfold contsV
  simp only
  split
  · rename_i h0
    have he : (ph1 l (idxV l k (m + 1)) (rawN l k) 0 []).2 = [] := List.eq_nil_of_length_eq_zero h0
    rw [he] at h2 ⊢
    exact ⟨⟨by simp, List.Pairwise.nil, fun i h => by simp at h, by simp, by simp, by simp, by simp, List.Pairwise.nil⟩, by simpa using h2⟩
  · have := ph2_inv l n 0 (ph1 l (idxV l k (m + 1)) (rawN l k) 0 []).1 _ h1.b (by omega) (by omega)
    rw [Nat.zero_add] at this
    exact ⟨this.1, by rw [this.2, h2]; simp⟩
end Go.Proofs.Ytngfknoddphhaaa
