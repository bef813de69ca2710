import Derived.Test.YtjgbbffcjbmjmaaFs
namespace Go.Proofs.Ytjgbbffcjbmjmaa
open Go.RowKit
set_option linter.unusedSimpArgs false
set_option linter.unusedVariables false

/-! ### Laws: Match's answer passes Check; scores -/
theorem match_good {x y : List Desc} (he : errsF x y = 0) : Good x.length y.length 890 (scD x y) (matchF x y) := by
  unfold matchF
  rw [if_pos he]
  exact matchM_good (by omega) scD_bd
theorem match_chk {x y : List Desc} (he : errsF x y = 0) : chkF x y (matchF x y) = 0 := by
  have h := match_good he
  generalize matchF x y = m at h ⊢
  refine chk8 he ⟨h.pl, h.rl, h.cl⟩ h.pr.rg ?_ ?_ (fun i hi k hk => h.fe i k hi hk) h.sum
  · rw [Bool.and_eq_true]
    exact ⟨prOk_iff.2 fun j hj => by have := h.r0 j (by rw [← h.rl]; exact hj); exact ⟨this.1, by omega⟩, prOk_iff.2 fun j hj => by have := h.c0 j (by rw [← h.cl]; exact hj); exact ⟨this.1, by omega⟩⟩
  · unfold pairF
    rw [if_pos, if_neg, if_pos]
    · rw [h.pl]; exact h.tot.symm
    · rw [h.pl]
      unfold misB
      rw [List.any_eq_true]
      rintro ⟨i, hi, h1⟩
      rw [Bool.and_eq_true, decide_eq_true_eq, decide_eq_true_eq] at h1
      have := h.pos i (List.mem_range.1 hi) h1.1
      omega
    · rw [h.pl]
      intro i hi k hki ⟨h1, h2⟩
      have := h.pr.inj i k hi (by omega) h1 h2
      omega
theorem errs_ok {x y : List Desc} (hx : x.length ≤ 8) (hy : y.length ≤ 8) (h1 : ∀ d ∈ x, validB d = true) (h2 : ∀ d ∈ y, validB d = true) : errsF x y = 0 := by
  unfold errsF
  rw [if_neg (by omega), if_pos]
  rw [Bool.and_eq_true]
  exact ⟨List.all_eq_true.2 h1, List.all_eq_true.2 h2⟩
theorem agr_comm {a b s o : Int} : agr a b s o = agr b a s o := by
  unfold agr
  by_cases h : a = b
  · subst h; rfl
  · have h' : ¬ b = a := fun e => h e.symm
    rw [if_neg h, if_neg h']
    by_cases h1 : a = 0 ∨ b = 0
    · rw [if_pos h1, if_pos h1.symm]
    · rw [if_neg h1, if_neg fun e => h1 e.symm]
theorem dig_comm {x y : UInt8} : dig x y = dig y x := by
  unfold dig
  repeat' split
  all_goals omega
theorem patV_comm {a b : ByteArray} : patV a b = patV b a := by
  unfold patV
  have h2 : patS a b 10 = patS b a 10 := sumN_congr fun i _ => dig_comm
  by_cases h1 : emp a = true ∨ emp b = true
  · rw [if_pos h1, if_pos h1.symm]
  · rw [if_neg h1, if_neg fun e => h1 e.symm, h2]
theorem feaS_comm {f g : Int} {j : Nat} : feaS f g j = feaS g f j := by
  unfold feaS
  exact sumN_congr fun i _ => by unfold bitV; rw [Nat.add_comm]
theorem porV_comm {a b : ByteArray} : porV a b = porV b a := by
  unfold porV
  by_cases h : a.toList = b.toList
  · have he : emp a = emp b := by unfold emp; rw [h]
    rw [he, h]
  · rw [if_neg fun e => h (beq_iff_eq.1 e.2), if_neg fun e => h (beq_iff_eq.1 e.2).symm]
theorem sco_comm {a b : Desc} : sco a b = sco b a := by
  unfold sco
  rw [agr_comm (a := a.col), agr_comm (a := a.typ), patV_comm, feaS_comm, porV_comm]
theorem scoreF_comm {a b : Desc} : scoreF a b = scoreF b a := by
  unfold scoreF
  rw [sco_comm, Bool.and_comm]
/-- A digit that is not read. -/
def unrd (a : Desc) (i : Nat) : Desc := { a with pat := ⟨(a.pat.data.toList.set i 63).toArray⟩ }
theorem unrd_size {a : Desc} {i : Nat} : (unrd a i).pat.size = a.pat.size := by
  rw [← size_len, ← size_len]
  show (a.pat.data.toList.set i 63).toArray.toList.length = _
  simp
theorem unrd_valid {a : Desc} {i : Nat} (h : validB a = true) (hp : emp a.pat = false) : validB (unrd a i) = true := by
  have hv := validB_iff.1 h
  have hs := pat_size hv hp
  refine validB_iff.2 ⟨?_, hv.col, hv.typ, hv.fea, hv.port⟩
  have h1 := hv.pat
  rw [hp, Bool.false_or] at h1
  unfold pat10 at h1
  rw [Bool.and_eq_true] at h1
  rw [Bool.or_eq_true]
  right
  unfold pat10
  rw [Bool.and_eq_true]
  refine ⟨?_, by rw [unrd_size]; exact h1.2⟩
  have h2 := h1.1
  unfold allok at h2 ⊢
  rw [List.all_eq_true] at h2 ⊢
  intro c hc
  have hc' : c ∈ a.pat.data.toList.set i 63 := by
    have : (unrd a i).pat.data.toList = a.pat.data.toList.set i 63 := by unfold unrd; simp
    rwa [this] at hc
  rcases List.mem_or_eq_of_mem_set hc' with h3 | h3
  · exact h2 c h3
  · subst h3; rfl
theorem unrd_chr {a : Desc} {i j : Nat} (hi : i < a.pat.size) : chr (unrd a i).pat j = if i = j then 63 else chr a.pat j := by
  unfold chr
  have : (unrd a i).pat.data.toList = a.pat.data.toList.set i 63 := by unfold unrd; simp
  rw [this, List.getD_eq_getElem?_getD, List.getElem?_set, List.getD_eq_getElem?_getD]
  by_cases h : i = j
  · subst h
    rw [if_pos rfl, if_pos rfl, if_pos (by rw [size_len]; exact hi)]
    rfl
  · rw [if_neg h, if_neg h]
theorem emp_size {s t : ByteArray} (h : s.size = t.size) : emp s = emp t := by
  cases h1 : emp s with
  | true => rw [emp_iff.2 (by rw [← h]; exact emp_iff.1 h1)]
  | false => exact (bfalse emp_iff fun h2 => by rw [emp_iff.2 (by omega)] at h1; cases h1).symm
theorem unrd_pat {a : Desc} {b : ByteArray} {i : Nat} (hs : a.pat.size = 10) (hi : i < 10) : patV a.pat b - 40 ≤ patV (unrd a i).pat b ∧ patV (unrd a i).pat b ≤ patV a.pat b + 60 := by
  unfold patV
  rw [emp_size (unrd_size (a := a) (i := i))]
  by_cases h : emp a.pat = true ∨ emp b = true
  · rw [if_pos h, if_pos h]; omega
  · rw [if_neg h, if_neg h]
    have e : patS (unrd a i).pat b 10 = patS a.pat b 10 - dig (chr a.pat i) (chr b i) + 0 := by
      unfold patS
      rw [← sumN_upd (n := 10) hi]
      refine sumN_congr fun j hj => ?_
      rw [unrd_chr (by omega)]
      by_cases hij : i = j
      · subst hij
        rw [if_pos rfl, if_pos rfl]
        rfl
      · rw [if_neg hij, if_neg fun e => hij e.symm]
    have := @dig_bd (chr a.pat i) (chr b i)
    omega
theorem unrd_law {a b : Desc} {i : Nat} (ha : validB a = true) (hp : emp a.pat = false) (hi : i < 10) : scoreF a b - 40 ≤ scoreF (unrd a i) b ∧ scoreF (unrd a i) b ≤ scoreF a b + 60 := by
  have hv := unrd_valid (i := i) ha hp
  have hs := pat_size (validB_iff.1 ha) hp
  unfold scoreF
  rw [ha, hv]
  cases validB b with
  | false => simp
  | true =>
    have hif : ∀ x : Int, (if (true && true) = true then x else 0) = x := fun x => if_pos rfl
    rw [hif, hif]
    have h := unrd_pat (b := b.pat) hs hi
    have e : sco (unrd a i) b - patV (unrd a i).pat b.pat = sco a b - patV a.pat b.pat := by
      unfold sco
      show agr a.col b.col 100 (-50) + agr a.typ b.typ 100 (-100) + patV (unrd a i).pat b.pat + feaS a.fea b.fea 8 + porV a.port b.port - _ = _
      omega
    omega
end Go.Proofs.Ytjgbbffcjbmjmaa
