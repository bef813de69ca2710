import Derived.Test.YtngfknoddphhaaaMj
namespace Go.Proofs.Ytngfknoddphhaaa
open Go.RowKit
set_option linter.unusedSimpArgs false
set_option linter.unusedVariables false

/-! ### The law of ContainerFinds -/
structure GoodC (ys : List Container) : Prop where
  val : ∀ c ∈ ys, valC c = 0
  asc : ys.Pairwise fun c d => c.number < d.number
  pos : ∀ (i : Nat) (h : i < ys.length), ys[i].position = 0 ∨ ys[i].position = i + 1
  disj : ys.Pairwise fun c d => ∀ x ∈ c.pieces, ∀ y ∈ d.pieces, x.plate ≠ y.plate
theorem InvB.good {i : Nat} {cs : List Container} (h : InvB i cs) : GoodC cs := ⟨fun c hc => h.val hc, h.asc, h.pos, h.disj⟩
theorem chkP_some : ∀ (l : List Piece) (pl : List Plate), AscP l → (∀ x ∈ l, x.plate ∉ pl) → ∃ pl', chkP l pl = some pl' ∧ ∀ q, q ∈ pl' → q ∈ pl ∨ ∃ x ∈ l, x.plate = q
  | [], pl, _, _ => ⟨pl, rfl, fun q h => .inl h⟩
  | p :: l, pl, ha, hn => by
    have h1 := List.pairwise_cons.1 ha
    rw [chkP_cons, if_neg (hn p (by simp))]
    obtain ⟨pl', h2, h3⟩ := chkP_some l (p.plate :: pl) h1.2 (fun x hx hm => by
      rcases List.mem_cons.1 hm with e | hm
      · have := h1.1 x hx; rw [e] at this; exact PLt.irrefl _ this
      · exact hn x (by simp [hx]) hm)
    refine ⟨pl', h2, fun q hq => ?_⟩
    rcases h3 q hq with h | ⟨x, hx, e⟩
    · rcases List.mem_cons.1 h with rfl | h
      · exact .inr ⟨p, by simp, rfl⟩
      · exact .inl h
    · exact .inr ⟨x, by simp [hx], e⟩
theorem chk_zero : ∀ (cs : List Container) (o : Option Int) (sp : List Container) (pl : List Plate), (∀ c ∈ cs, valC c = 0) → (cs.Pairwise fun c d => c.number < d.number) → (∀ m, o = some m → ∀ c ∈ cs, m < c.number) →
    (cs.Pairwise fun c d => c.position ≠ 0 → c.position ≠ d.position) → (∀ s ∈ sp, ∀ c ∈ cs, s.position ≠ c.position) → (∀ c ∈ cs, ∀ x ∈ c.pieces, x.plate ∉ pl) → (cs.Pairwise fun c d => ∀ x ∈ c.pieces, ∀ y ∈ d.pieces, x.plate ≠ y.plate) → chk o cs sp pl = 0
  | [], _, _, _, _, _, _, _, _, _, _ => rfl
  | c :: cs, o, sp, pl, hv, ha, ho, hp, hs, hpl, hd => by
    have ha1 := List.pairwise_cons.1 ha
    have hp1 := List.pairwise_cons.1 hp
    have hd1 := List.pairwise_cons.1 hd
    obtain ⟨pl', h2, h3⟩ := chkP_some c.pieces pl (val_asc (hv c (by simp))) (hpl c (by simp))
    unfold chk
    rw [if_neg (by simp [hv c (by simp)]), if_neg (by
      cases o with
      | none => simp [prevBad]
      | some m => have := ho m rfl c (by simp); unfold prevBad; simp; omega), if_neg (by
      rintro ⟨_, hm⟩
      obtain ⟨s, h4, h5⟩ := List.mem_map.1 hm
      exact hs s h4 c (by simp) (congrArg Spot.position h5)), h2]
    simp only
    refine chk_zero cs _ _ pl' (fun d hd => hv d (by simp [hd])) ha1.2 (fun m hm d hd => by injection hm with hm; rw [← hm]; exact ha1.1 d hd) hp1.2 (fun s h4 d hdm => ?_) (fun d hdm x hx hm => ?_) hd1.2
    · by_cases h0 : c.position ≠ 0
      · rw [if_pos h0] at h4
        rcases List.mem_cons.1 h4 with e | h4
        · rw [e]; exact hp1.1 d hdm h0
        · exact hs s h4 d (List.mem_cons_of_mem _ hdm)
      · rw [if_neg h0] at h4
        exact hs s h4 d (List.mem_cons_of_mem _ hdm)
    · rcases h3 _ hm with h | ⟨y, hy, e⟩
      · exact hpl d (List.mem_cons_of_mem _ hdm) x hx h
      · exact hd1.1 d hdm y hy x hx e
theorem GoodC.chk {ys : List Container} (h : GoodC ys) (hl : ys.length ≤ 24) : chkL ys = 0 := by
  unfold chkL
  rw [if_neg (by omega)]
  refine chk_zero ys none [] [] h.val h.asc (by simp) (List.pairwise_iff_getElem.2 fun i j hi hj hij h0 => ?_) (by simp) (by simp) h.disj
  rcases h.pos i hi with h1 | h1 <;> rcases h.pos j hj with h2 | h2 <;> omega
theorem GoodC.set {ys : List Container} (h : GoodC ys) {q : Nat} (hq : q < ys.length) {d : Container} (hv : valC d = 0) (hn : d.number = ys[q].number) (hp : d.position = ys[q].position)
    (hd : ∀ (k : Nat) (hk : k < ys.length), k ≠ q → ∀ x ∈ d.pieces, ∀ y ∈ ys[k].pieces, x.plate ≠ y.plate) : GoodC (ys.set q d) := by
  have hnum : ∀ (j : Nat) (hj : j < (ys.set q d).length), (ys.set q d)[j].number = (ys[j]'(by simpa using hj)).number := fun j hj => by
    rw [List.getElem_set]
    split
    · rename_i e; subst e; exact hn
    · rfl
  have hpos : ∀ (j : Nat) (hj : j < (ys.set q d).length), (ys.set q d)[j].position = (ys[j]'(by simpa using hj)).position := fun j hj => by
    rw [List.getElem_set]
    split
    · rename_i e; subst e; exact hp
    · rfl
  refine ⟨fun c hc => ?_, ?_, fun j hj => ?_, ?_⟩
  · rcases List.mem_or_eq_of_mem_set hc with hc | rfl
    · exact h.val c hc
    · exact hv
  · refine List.pairwise_iff_getElem.2 fun a b ha hb hab => ?_
    rw [hnum, hnum]
    exact List.pairwise_iff_getElem.1 h.asc a b (by simpa using ha) (by simpa using hb) hab
  · rw [hpos]; exact h.pos j (by simpa using hj)
  · refine List.pairwise_iff_getElem.2 fun a b ha hb hab => ?_
    have ha' : a < ys.length := by simpa using ha
    have hb' : b < ys.length := by simpa using hb
    rw [List.getElem_set, List.getElem_set]
    split
    · rename_i e
      subst e
      rw [if_neg (by omega)]
      exact hd b hb' (by omega)
    · split
      · rename_i e
        subst e
        intro x hx y hy e2
        exact hd a ha' (by omega) y hy x hx e2.symm
      · exact List.pairwise_iff_getElem.1 h.disj a b ha' hb' hab
theorem GoodC.only {ys : List Container} (h : GoodC ys) {p : Plate} {q : Nat} (hq : q < ys.length) (hh : hasB ys[q].pieces p = true) {k : Nat} (hk : k < ys.length) (hne : k ≠ q) : hasB ys[k].pieces p = false := by
  obtain ⟨x, hx, rfl⟩ := hasB_iff.1 hh
  refine hasB_no.2 fun y hy e => ?_
  rcases Nat.lt_or_gt_of_ne hne with h' | h'
  · exact List.pairwise_iff_getElem.1 h.disj k q hk hq h' y hy x hx e
  · exact List.pairwise_iff_getElem.1 h.disj q k hq hk h' x hx y hy e.symm
theorem GoodC.num {ys : List Container} (h : GoodC ys) {q k : Nat} (hq : q < ys.length) (hk : k < ys.length) (e : ys[k].number = ys[q].number) : k = q := by
  rcases Nat.lt_trichotomy k q with h' | h' | h'
  · have := List.pairwise_iff_getElem.1 h.asc k q hk hq h'; omega
  · exact h'
  · have := List.pairwise_iff_getElem.1 h.asc q k hq hk h'; omega
def cntL (xs : List Container) (p : Plate) : Int := ((xs.countP fun c => hasB c.pieces p : Nat) : Int)
theorem cnt_step {xs : List Container} {p : Plate} {i : Nat} {c : Container} (h : xs[i]? = some c) : cntL (xs.take (i + 1)) p = cntL (xs.take i) p + (if hasB c.pieces p = true then 1 else 0) := by
  unfold cntL
  rw [List.take_add_one, h, List.countP_append]
  simp only [Option.toList, List.countP_cons, List.countP_nil]
  split <;> simp_all
theorem cnt_bd (xs : List Container) (p : Plate) : 0 ≤ cntL xs p ∧ cntL xs p ≤ xs.length := by
  unfold cntL
  have := List.countP_le_length (p := fun c : Container => hasB c.pieces p) (l := xs)
  omega
theorem GoodC.find {xs : List Container} (h : GoodC xs) (p : Plate) : (cntL xs p = 0 ∧ findL xs p = (0, false)) ∨ ∃ (q : Nat) (c : Container), xs[q]? = some c ∧ hasB c.pieces p = true ∧ cntL xs p = 1 ∧ findL xs p = (c.number, true) := by
  by_cases hall : ∀ (k : Nat) (hk : k < xs.length), hasB xs[k].pieces p = false
  · left
    refine ⟨?_, find_none hall⟩
    unfold cntL
    rw [List.countP_eq_zero.2 (fun c hc => by obtain ⟨k, hk, rfl⟩ := List.getElem_of_mem hc; simp [hall k hk])]
    rfl
  · right
    have : ∃ (q : Nat) (hq : q < xs.length), hasB xs[q].pieces p = true := by
      apply Classical.byContradiction
      intro hn
      apply hall
      intro k hk
      cases hb : hasB xs[k].pieces p with
      | false => rfl
      | true => exact absurd ⟨k, hk, hb⟩ hn
    obtain ⟨q, hq, hh⟩ := this
    refine ⟨q, xs[q], List.getElem?_eq_getElem hq, hh, ?_, find_yes (List.getElem?_eq_getElem hq) (fun k hk hkq => h.only hq hh hk (by omega)) hh⟩
    unfold cntL
    have e : xs = xs.take q ++ xs[q] :: xs.drop (q + 1) := by rw [← List.drop_eq_getElem_cons hq, List.take_append_drop]
    have e1 : (xs.take q).countP (fun c => hasB c.pieces p) = 0 := List.countP_eq_zero.2 fun c hc => by
      obtain ⟨k, hk, rfl⟩ := List.getElem_of_mem hc
      simp at hk
      simp [h.only hq hh (k := k) (by omega) (by omega)]
    have e2 : (xs.drop (q + 1)).countP (fun c => hasB c.pieces p) = 0 := List.countP_eq_zero.2 fun c hc => by
      obtain ⟨k, hk, rfl⟩ := List.getElem_of_mem hc
      simp at hk
      simp [h.only hq hh (k := q + 1 + k) (by omega) (by omega)]
    have : xs.countP (fun c => hasB c.pieces p) = 1 := by
      conv => lhs; rw [e]
      rw [List.countP_append, List.countP_cons, e1, e2]
      simp [hh]
    rw [this]; rfl
def zeroP : Piece := ⟨⟨0, 0, 0⟩, 0, 0⟩
def mvF (p : Plate) (z : Piece) (l : List Piece) : Piece := l.foldl (fun m q => if q.plate = p then q else m) z
theorem mvF_snoc (p : Plate) (z : Piece) (l : List Piece) (q : Piece) : mvF p z (l ++ [q]) = if q.plate = p then q else mvF p z l := by unfold mvF; simp
theorem mvF_take {p : Plate} {z : Piece} {l : List Piece} {i : Nat} {q : Piece} (h : l[i]? = some q) : mvF p z (l.take (i + 1)) = if q.plate = p then q else mvF p z (l.take i) := by
  rw [List.take_add_one, h]; exact mvF_snoc _ _ _ _
theorem mvF_spec {p : Plate} (z : Piece) : ∀ (l : List Piece), hasB l p = true → mvF p z l ∈ l ∧ (mvF p z l).plate = p := by
  have key : ∀ (l : List Piece) (z : Piece), (mvF p z l = z ∧ hasB l p = false) ∨ (mvF p z l ∈ l ∧ (mvF p z l).plate = p) := by
    intro l
    induction l with
    | nil => intro z; left; exact ⟨rfl, rfl⟩
    | cons q l ih =>
      intro z
      have e : mvF p z (q :: l) = mvF p (if q.plate = p then q else z) l := rfl
      rw [e]
      by_cases hq : q.plate = p
      · rw [if_pos hq]
        rcases ih q with ⟨h1, h2⟩ | ⟨h1, h2⟩
        · right; rw [h1]; exact ⟨by simp, hq⟩
        · right; exact ⟨by simp [h1], h2⟩
      · rw [if_neg hq]
        rcases ih z with ⟨h1, h2⟩ | ⟨h1, h2⟩
        · left
          refine ⟨h1, hasB_no.2 fun x hx => ?_⟩
          rcases List.mem_cons.1 hx with rfl | hx
          · exact hq
          · exact hasB_no.1 h2 x hx
        · right; exact ⟨by simp [h1], h2⟩
  intro l hl
  rcases key l z with ⟨_, h⟩ | h
  · rw [h] at hl; cases hl
  · exact h
/-- What moving a piece gives. -/
theorem GoodC.moved {xs : List Container} (h : GoodC xs) {q : Nat} {c : Container} (hc : xs[q]? = some c) {pc : Piece} (hpc : pc ∈ c.pieces) {t : Nat} (ht : t < xs.length) (hlen : ∀ c ∈ xs, c.pieces.length ≤ 20) :
    remC c pc.plate = (delC c pc.plate, 0) ∧ ∃ d, (xs.set q (delC c pc.plate))[t]? = some d ∧ d.pieces.length ≤ 20 ∧ putC d pc false = (insC d pc, 0) ∧ findL ((xs.set q (delC c pc.plate)).set t (insC d pc)) pc.plate = ((xs[t]'ht).number, true) ∧ GoodC ((xs.set q (delC c pc.plate)).set t (insC d pc)) := by
  obtain ⟨hq, rfl⟩ := List.getElem?_eq_some_iff.1 hc
  have hv := h.val _ (List.getElem_mem hq)
  have hhas : hasB xs[q].pieces pc.plate = true := hasB_iff.2 ⟨pc, hpc, rfl⟩
  have hno := del_no (val_asc hv) hpc
  have hpi := (val_inv hv).2.2.1 pc hpc
  have hsub : ∀ x ∈ (delC xs[q] pc.plate).pieces, x ∈ xs[q].pieces := fun x hx => (del_sub _ _).subset hx
  have hdj : ∀ (k : Nat) (hk : k < xs.length), k ≠ q → ∀ x ∈ xs[q].pieces, ∀ y ∈ xs[k].pieces, x.plate ≠ y.plate := fun k hk hne x hx y hy e => by
    rcases Nat.lt_or_gt_of_ne hne with h' | h'
    · exact List.pairwise_iff_getElem.1 h.disj k q hk hq h' y hy x hx e.symm
    · exact List.pairwise_iff_getElem.1 h.disj q k hq hk h' x hx y hy e
  have g1 : GoodC (xs.set q (delC xs[q] pc.plate)) := h.set hq (del_val hv) rfl rfl fun k hk hne x hx => hdj k hk hne x (hsub x hx)
  refine ⟨?_, ?_⟩
  · unfold remC
    rw [if_neg (by simp [hv]), if_neg (by rw [found_has (val_asc hv), hhas]; simp)]
  generalize hys : xs.set q (delC xs[q] pc.plate) = ys at *
  have hyl : ys.length = xs.length := by rw [← hys]; simp
  have hyt : t < ys.length := by omega
  have hnone : ∀ (k : Nat) (hk : k < ys.length), hasB ys[k].pieces pc.plate = false := fun k hk => by
    subst hys
    rw [List.getElem_set]
    split
    · exact hno
    · rename_i hne
      exact h.only hq hhas (by omega) (fun e => hne e.symm)
  have hnum : ys[t].number = (xs[t]'ht).number := by
    subst hys
    rw [List.getElem_set]
    split
    · rename_i e; subst e; rfl
    · rfl
  have hl20 : ys[t].pieces.length ≤ 20 := by
    subst hys
    rw [List.getElem_set]
    split
    · exact Nat.le_trans (del_sub _ _).length_le (hlen _ (List.getElem_mem hq))
    · exact hlen _ (List.getElem_mem (by omega))
  have hvt := g1.val _ (List.getElem_mem hyt)
  have hF := force_rem hvt hpi (hnone t hyt) (by omega)
  have hiv := ins_val hvt hpi (hnone t hyt) (by omega)
  have g2 : GoodC (ys.set t (insC ys[t] pc)) := g1.set hyt hiv rfl rfl fun k hk hne x hx y hy e => by
    rcases List.mem_cons.1 ((insL_perm _ _).mem_iff.1 (show x ∈ insL ys[t].pieces pc from hx)) with rfl | hx
    · exact hasB_no.1 (hnone k hk) y hy e.symm
    · rcases Nat.lt_or_gt_of_ne hne with h' | h'
      · exact List.pairwise_iff_getElem.1 g1.disj k t hk hyt h' y hy x hx e.symm
      · exact List.pairwise_iff_getElem.1 g1.disj t k hyt hk h' x hx y hy e
  refine ⟨ys[t], List.getElem?_eq_getElem hyt, hl20, hF.1, ?_, g2⟩
  rw [← hnum]
  have := find_yes (xs := ys.set t (insC ys[t] pc)) (p := pc.plate) (i := t) (c := insC ys[t] pc) (by simp [hyt]) (fun k hk hkt => by
    rw [List.getElem_set, if_neg (by omega)]
    exact hnone k (by simpa using hk)) hF.2.2.2
  exact this
end Go.Proofs.Ytngfknoddphhaaa
