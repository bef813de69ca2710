import Derived.Test.YtfmnaigedgmhoaaDoorXee
import Derived.Laws.Concat
import Derived.Deep.Slices
import Derived.OpenShut
import Derived.WalkKit
import Derived.ProofKit
import Derived.Test.YtfmnaigedgmhoaaDoorRows
import Derived.LaidMore
import Derived.Stop.Joined
namespace Go.Proofs.YtfmnaigedgmhoaaDoor
open Go.RowKit
set_option linter.unusedSimpArgs false
set_option linter.unusedVariables false
set_option maxRecDepth 100000
theorem textV_mem {l : List Int} {k : Nat} {ss : List ByteArray} (h : 1 ≤ ss.length) : textV l k ss ∈ ss := by
  have hg := gmod_bd (x := rawV l k) (n := (ss.length : Nat)) (by omega)
  unfold textV
  rw [List.getD_eq_getElem?_getD, List.getElem?_eq_getElem (by omega)]
  exact List.getElem_mem _
theorem plates_ok (i : Int) : plB (platesP i) = true := by
  have hg := gmod_bd (x := i) (n := 1000) (by decide)
  unfold plB platesP
  simp only [Bool.and_eq_true, decide_eq_true_eq]
  omega
theorem piece_ok (l : List Int) (k : Nat) : piB (pieceV l k 1000) = true := by
  have hg := gmod_bd (x := rawV l (rawN l k)) (n := 40) (by decide)
  have hc : ∀ c ∈ catsL, 0 ≤ c ∧ c ≤ 4 := by decide
  have h2 := hc _ (pickV_mem (l := l) (k := rawN l (rawN l k)) (xs := catsL) (by decide))
  unfold piB
  rw [show (pieceV l k 1000).plate = platesP (gmod (rawV l k) 1000) from rfl, plates_ok, Bool.true_and, Bool.and_eq_true, inB_iff, inB_iff]
  exact ⟨⟨by show (1 : Int) ≤ 1 + _; omega, by show 1 + _ ≤ (999 : Int); omega⟩, h2⟩
theorem op_ok (l : List Int) (k : Nat) {d : Int} (hd : 1 ≤ d ∧ d ≤ 6) (kd : Int) (hk : kd = 1 ∨ kd = 2) : opB { opV l k d with kind := kd } = true := by
  have h0 := gmod_bd (x := rawV l k) (n := 1048577) (by decide)
  have h1 := gmod_bd (x := rawV l (rN l 1 k)) (n := 99) (by decide)
  have h3 := gmod_bd (x := rawV l (rN l 3 k)) (n := 999) (by decide)
  have a1 : inB (gmod (rawV l k) 1048577) 0 1048576 = true := inB_iff.2 (by omega)
  have a2 : inB d 1 6 = true := inB_iff.2 hd
  have a3 : inB (1 + gmod (rawV l (rN l 1 k)) 99) 1 1048576 = true := inB_iff.2 (by omega)
  have a4 : inB (1 + gmod (rawV l (rN l 3 k)) 999) 1 999 = true := inB_iff.2 (by omega)
  unfold opB
  rw [if_neg (by show ¬ ((!inB (gmod (rawV l k) 1048577) 0 1048576 || !inB d 1 6) || !inB (1 + gmod (rawV l (rN l 1 k)) 99) 1 1048576) = true; rw [a1, a2, a3]; decide)]
  show (((decide (kd = 1) || decide (kd = 2)) && inB (1 + gmod (rawV l (rN l 3 k)) 999) 1 999) && piB (pieceV l (rN l 4 k) 1000)) = true
  rw [a4, piece_ok]
  rcases hk with rfl | rfl <;> rfl
theorem op_ok0 (l : List Int) (k : Nat) {d : Int} (hd : 1 ≤ d ∧ d ≤ 6) : opB (opV l k d) = true := by
  have h2 := gmod_bd (x := rawV l (rN l 2 k)) (n := 2) (by decide)
  exact op_ok l k hd (1 + gmod (rawV l (rN l 2 k)) 2) (by omega)
theorem fl_ok (l : List Int) (k : Nat) : flB (flS l k) = true := by
  have h1 := gmod_bd (x := rawV l (rawN l k)) (n := 3) (by decide)
  have h2 := gmod_bd (x := rawV l (rawN l (rawN l k))) (n := 3) (by decide)
  have hc : ∀ s ∈ carL, carB s = true := by decide
  have h3 := hc _ (textV_mem (l := l) (k := k) (ss := carL) (by decide))
  have h4 : lettersB (⟨#[]⟩ : ByteArray) 0 1 = true := by decide
  unfold flB
  rw [show (flS l k).carrier = textV l k carL from rfl, h3, show (flS l k).suffix = (⟨#[]⟩ : ByteArray) from rfl, h4]
  simp only [Bool.true_and, Bool.and_true, Bool.and_eq_true, decide_eq_true_eq]
  omega
structure RGood (n : Nat) (acc : List Report) : Prop where
  all : ∀ r ∈ acc, rpB r = true
  lt : ∀ r ∈ acc, r.device < (n : Int)
  asc : acc.Pairwise fun a b => a.device < b.device
  len : acc.length ≤ n
theorem reps_good (l : List Int) : ∀ (n k : Nat) (acc : List Report), n ≤ 24 → RGood (24 - n) acc → RGood 24 (repsV l n k acc).1
  | 0, _, _, _, h => h
  | n + 1, k, acc, hn, h => by
    have step : RGood (24 - n) acc := ⟨h.all, fun r hr => by have := h.lt r hr; omega, h.asc, by have := h.len; omega⟩
    show RGood 24 (if gmod (rawV l k) 6 = 5 then repsV l n (rN l 3 k) _ else repsV l n (rN l 1 k) acc).1
    split
    · refine reps_good l n _ _ (by omega) ⟨fun r hr => ?_, fun r hr => ?_, ?_, ?_⟩
      · rcases List.mem_append.1 hr with hr | hr
        · exact h.all r hr
        · obtain rfl : r = _ := by simpa using hr
          have hc : ∀ s ∈ rpT, rdB s = true := by decide
          unfold rpB
          rw [hc _ (textV_mem (by decide)), Bool.and_true]
          exact inB_iff.2 (by dsimp only; omega)
      · rcases List.mem_append.1 hr with hr | hr
        · have := h.lt r hr; omega
        · obtain rfl : r = _ := by simpa using hr
          dsimp only
          omega
      · rw [List.pairwise_append]
        refine ⟨h.asc, List.pairwise_singleton _ _, fun a ha b hb => ?_⟩
        obtain rfl : b = _ := by simpa using hb
        have := h.lt a ha
        dsimp only
        omega
      · rw [List.length_append, List.length_singleton]
        have := h.len
        omega
    · exact reps_good l n _ _ (by omega) step
theorem asc_of {l : List Report} (h : l.Pairwise fun a b => a.device < b.device) : ascR l = true := by
  refine asc_yes (i := l.length) (by omega) fun k h1 h2 => ?_
  rw [getD_of (by omega), getD_of h2]
  exact List.pairwise_iff_getElem.1 h (k - 1) k (by omega) h2 (by omega)
theorem opsV_good (l : List Int) {d : Int} (hd : 1 ≤ d ∧ d ≤ 6) : ∀ (n k : Nat) (acc : List Op), (∀ o ∈ acc, opB o = true ∧ o.device = d) → acc.length + n ≤ 6 → (∀ o ∈ (opsV l d n k acc).1, opB o = true ∧ o.device = d) ∧ (opsV l d n k acc).1.length ≤ 6
  | 0, _, _, h, hl => ⟨h, hl⟩
  | n + 1, k, acc, h, hl => by
    refine opsV_good l hd n (rN l 7 k) (acc ++ [opV l k d]) (fun o ho => ?_) (by rw [List.length_append, List.length_singleton]; omega)
    rcases List.mem_append.1 ho with ho | ho
    · exact h o ho
    · obtain rfl : o = _ := by simpa using ho
      exact ⟨op_ok0 l k hd, rfl⟩
theorem mem1 {f : Nat → Bool} {p : Nat} (h : f p = true) : ∀ q ∈ [p], f q = true := fun q hq => by
  obtain rfl : q = p := by simpa using hq
  exact h
theorem mem2 {f : Nat → Bool} {p r : Nat} (h : f p = true) (h2 : f r = true) : ∀ q ∈ [p, r], f q = true := fun q hq => by
  simp only [List.mem_cons, List.not_mem_nil, or_false] at hq
  rcases hq with rfl | rfl
  · exact h
  · exact h2
theorem z3 : (0 ≤ 2048) ∧ (0 ≤ 24) ∧ (0 ≤ 60) := by decide
theorem ev_good (l : List Int) (k : Nat) : Good (evV l k).1 := by
  have hK : 1 ≤ evK l k ∧ evK l k ≤ 14 := by
    have := gmod_bd (x := rawV l k) (n := 14) (by decide)
    unfold evK; omega
  have hD : 1 ≤ evD l k ∧ evD l k ≤ 6 := by
    have := gmod_bd (x := rawV l (rN l 1 k)) (n := 6) (by decide)
    unfold evD; omega
  have n24 : ∀ j, inB (gmod (rawV l j) 24) 0 23 = true := fun j => by
    have := gmod_bd (x := rawV l j) (n := 24) (by decide)
    exact inB_iff.2 (by omega)
  have nM : ∀ j, inB (gmod (rawV l j) 1048577) 0 1048576 = true := fun j => by
    have := gmod_bd (x := rawV l j) (n := 1048577) (by decide)
    exact inB_iff.2 (by omega)
  rcases kind_cases hK with h | h | h | h | h | h | h | h | h | h | h | h | h | h
  · rw [evV_1 h, h]
    have ht : ∀ s ∈ evT, s.size ≤ 2048 := by decide
    exact ⟨(by decide : (1 : Int) ≤ 1 ∧ (1 : Int) ≤ 14), rfl, ⟨ht _ (textV_mem (by decide)), Nat.zero_le _, Nat.zero_le _⟩, mem1 rfl, rfl⟩
  · rw [evV_2 (.inl h), h]
    exact ⟨(by decide : (1 : Int) ≤ 2 ∧ (2 : Int) ≤ 14), rfl, z3, mem2 (plates_ok _) (n24 _), rfl⟩
  · rw [evV_3 h, h]
    have hr := reps_good l 24 (rN l 2 k) [] (by decide) ⟨by simp, by simp, .nil, by simp⟩
    have ht : ∀ c ∈ tmL, inB c 0 1048576 = true := by decide
    exact ⟨(by decide : (1 : Int) ≤ 3 ∧ (3 : Int) ≤ 14), rfl, ⟨Nat.zero_le _, hr.len, Nat.zero_le _⟩, mem2 (ht _ (pickV_mem (by decide))) (List.all_eq_true.2 hr.all), asc_of hr.asc⟩
  · rw [evV_4 h, h]
    exact ⟨(by decide : (1 : Int) ≤ 4 ∧ (4 : Int) ≤ 14), rfl, z3, mem2 (nM _) rfl, rfl⟩
  · rw [evV_5 h, h]
    have hg := gmod_bd (x := rawV l (rN l 1 k)) (n := 5) (by decide)
    refine ⟨(by decide : (1 : Int) ≤ 5 ∧ (5 : Int) ≤ 14), rfl, z3, mem1 ?_, rfl⟩
    show ((inB (1 + gmod (rawV l (rN l 1 k)) 5) 1 5 && inB (gmod (rawV l (rN l 2 k)) 1048577) 0 1048576) && flB (flS l (rN l 3 k))) = true
    rw [nM, fl_ok, Bool.and_true, Bool.and_true]
    exact inB_iff.2 (by omega)
  · rw [evV_6 (.inl h), h]
    exact ⟨(by decide : (1 : Int) ≤ 6 ∧ (6 : Int) ≤ 14), rfl, z3, mem1 (n24 _), rfl⟩
  · rw [evV_6 (.inr h), h]
    exact ⟨(by decide : (1 : Int) ≤ 7 ∧ (7 : Int) ≤ 14), rfl, z3, mem1 (n24 _), rfl⟩
  · rw [evV_8 h, h]
    refine ⟨(by decide : (1 : Int) ≤ 8 ∧ (8 : Int) ≤ 14), rfl, z3, mem2 ?_ (n24 _), rfl⟩
    show (opB { opV l (rN l 2 k) (evD l k) with kind := 1 } && true) = true
    rw [op_ok l _ hD 1 (.inl rfl)]; rfl
  · rw [evV_9 h, h]
    refine ⟨(by decide : (1 : Int) ≤ 9 ∧ (9 : Int) ≤ 14), rfl, z3, mem1 ?_, rfl⟩
    show (opB { opV l (rN l 2 k) (evD l k) with kind := 2 } && true) = true
    rw [op_ok l _ hD 2 (.inr rfl)]; rfl
  · rw [evV_2 (.inr h), h]
    exact ⟨(by decide : (1 : Int) ≤ 10 ∧ (10 : Int) ≤ 14), rfl, z3, mem2 (plates_ok _) (n24 _), rfl⟩
  · rw [evV_11 h, h]
    exact ⟨(by decide : (1 : Int) ≤ 11 ∧ (11 : Int) ≤ 14), rfl, z3, mem1 (inB_iff.2 hD), rfl⟩
  · rw [evV_12 h, h]
    have hg := gmod_bd (x := rawV l (rN l 2 k)) (n := 6) (by decide)
    have ho := opsV_good l hD (gmod (rawV l (rN l 2 k)) 6).toNat (rN l 3 k) [] (by simp) (by simp; omega)
    refine ⟨(by decide : (1 : Int) ≤ 12 ∧ (12 : Int) ≤ 14), rfl, ⟨Nat.zero_le _, Nat.zero_le _, Nat.le_trans ho.2 (by decide)⟩, mem2 (inB_iff.2 hD) (List.all_eq_true.2 fun o hm => ?_), rfl⟩
    rw [(ho.1 o hm).1, Bool.true_and]
    exact decide_eq_true (ho.1 o hm).2
  · rw [evV_13 h, h]
    exact ⟨(by decide : (1 : Int) ≤ 13 ∧ (13 : Int) ≤ 14), rfl, z3, mem1 (fl_ok _ _), rfl⟩
  · rw [evV_0 (by omega), h]
    exact ⟨(by decide : (1 : Int) ≤ 14 ∧ (14 : Int) ≤ 14), rfl, z3, (fun p hp => by cases hp), rfl⟩
theorem Good.sm {x : Ev} (h : Good x) : x.Sm := by
  have hl := h.lim
  refine ⟨by omega, by omega, by omega, fun r hr => ?_⟩
  by_cases h6 : 6 ∈ fieldsL x.kind
  · have := (rp_good (List.all_eq_true.1 (h.pr 6 h6) r hr)).2
    omega
  · have h0 : x.reports = [] := by
      have := (only_lists (fieldsL x.kind) x (ev0 x.kind)).1 h6
      rw [show onlyP (fieldsL x.kind) x (ev0 x.kind) = x from h.only.symm] at this
      exact this
    rw [h0] at hr; cases hr
end Go.Proofs.YtfmnaigedgmhoaaDoor
namespace Go.Proofs.YtfmnaigedgmhoaaDoor
open Go.RowKit
set_option linter.unusedSimpArgs false
set_option linter.unusedVariables false
end Go.Proofs.YtfmnaigedgmhoaaDoor
namespace Go.Proofs.YtfmnaigedgmhoaaDoor
open Go.RowKit
set_option linter.unusedSimpArgs false
set_option linter.unusedVariables false
set_option maxRecDepth 100000
def spT : List ByteArray := [⟨#[]⟩, ⟨#[63]⟩, ⟨#[63, 63, 63, 63, 63, 63, 63, 63, 63, 63]⟩]
def spJ (l : List Int) (k : Nat) : Int := gmod (rawV l k) 13
def spV (l : List Int) (k : Nat) (x : Ev) : Ev × Nat :=
  if spJ l k = 0 then ({ x with kind := pickV l (rN l 1 k) ([-1, 0, 1, 2, 3, 14, 15] : List Int) }, rN l 2 k)
  else if spJ l k = 1 then ({ x with time := pickV l (rN l 1 k) ([-1, 1, 1048576, 1048577] : List Int) }, rN l 2 k)
  else if spJ l k = 2 then ({ x with text := x.text ++ ⟨#[120]⟩ }, rN l 1 k)
  else if spJ l k = 3 then ({ x with plate := { x.plate with airline := pickV l (rN l 1 k) ([0, 1, 999, 1000] : List Int) } }, rN l 2 k)
  else if spJ l k = 4 then ({ x with node := pickV l (rN l 1 k) ([-1, 0, 23, 24] : List Int) }, rN l 2 k)
  else if spJ l k = 5 then ({ x with image := pickV l (rN l 1 k) ([-1, 1048576, 1048577] : List Int) }, rN l 2 k)
  else if spJ l k = 6 then ({ x with clear := !x.clear }, rN l 1 k)
  else if spJ l k = 7 then ({ x with reports := x.reports ++ [(⟨pickV l (rN l 1 k) ([-1, 0, 23, 24] : List Int), false, textV l (rN l 2 k) spT⟩ : Report)] }, rN l 3 k)
  else if spJ l k = 8 then ({ x with rev := { x.rev with amount := pickV l (rN l 1 k) ([-1, 0, 1048576, 1048577] : List Int) } }, rN l 2 k)
  else if spJ l k = 9 then ({ x with device := pickV l (rN l 1 k) ([0, 1, 6, 7] : List Int) }, rN l 2 k)
  else if spJ l k = 10 then ({ x with op := { x.op with kind := gmod (rawV l (rN l 1 k)) 4 } }, rN l 2 k)
  else if spJ l k = 11 then ({ x with ops := x.ops ++ [(opV l (rN l 2 k) (1 + gmod (rawV l (rN l 1 k)) 3))] }, rN l 9 k)
  else ({ x with fl := { x.fl with day := pickV l (rN l 1 k) ([0, 1, 99, 100] : List Int) } }, rN l 2 k)
section
variable {l : List Int} {k : Nat} {x : Ev}
end
end Go.Proofs.YtfmnaigedgmhoaaDoor
namespace Go.Proofs.YtfmnaigedgmhoaaDoor
open Go.RowKit
set_option linter.unusedSimpArgs false
set_option linter.unusedVariables false
inductive Sh where
  | int (k : IntKind)
  | str
  | bool
  | sl (row : List Sh)
inductive Mt : AV → Sh → Prop
  | int {k : IntKind} {n : Int} (h : (Lit.int k n).wf = true) : Mt (.v (.int k n)) (.int k)
  | str {s : ByteArray} (h : s.size ≤ maxLen) : Mt (.v (.string s)) .str
  | bool {b : Bool} : Mt (.v (.bool b)) .bool
  | sl {row : List Sh} {es : List (List AV)} (hs : es.length ≤ maxLen) (h : ∀ e ∈ es, e.length = row.length) (hc : ∀ e ∈ es, ∀ (i : Nat) (x : AV) (s : Sh), e[i]? = some x → row[i]? = some s → Mt x s) : Mt (.ro es) (.sl row)
theorem Mt.rows {es : List (List AV)} {row : List Sh} (h : Mt (.ro es) (.sl row)) : ∀ e ∈ es, RL Mt e row := by
  cases h with
  | sl hs h hc => exact fun e he => ⟨h e he, hc e he⟩
theorem rows_of {α : Type} {f : α → List AV} : ∀ {es : List (List AV)}, (∀ e ∈ es, ∃ p, e = f p) → ∃ ps : List α, es = ps.map f
  | [], _ => ⟨[], rfl⟩
  | e :: es, h => by
    obtain ⟨p, rfl⟩ := h e (by simp)
    obtain ⟨ps, rfl⟩ := rows_of (es := es) fun e he => h e (by simp [he])
    exact ⟨p :: ps, rfl⟩
def fieldsSh (sh : TypeId → Option (List Sh)) (P : Program) : Nat → List Field → Option (List Sh)
  | _, [] => some []
  | o, f :: fs => if f.offset = o then (sh f.type).bind fun r => if r.length = P.cellsOf f.type then (fieldsSh sh P (o + r.length) fs).map (r ++ ·) else none else none
def copies (r : List Sh) : Nat → List Sh
  | 0 => []
  | n + 1 => r ++ copies r n
def shOf (P : Program) : Nat → TypeId → Option (List Sh)
  | 0, _ => none
  | n + 1, t => match P.underlying t with
    | some (.int k) => some [.int k]
    | some .string => some [.str]
    | some .bool => some [.bool]
    | some (.slice e) => (shOf P n e).map fun r => [.sl r]
    | some (.struct fs) => (fieldsSh (shOf P n) P 0 fs.toList).bind fun r => if r.length = P.cellsOf t then some r else none
    | some (.array k e) => (shOf P n e).bind fun r => if r.length = P.cellsOf e ∧ P.cellsOf t = k * P.cellsOf e then some (copies r k) else none
    | _ => none
theorem RL.cons' {α β : Type} {R : α → β → Prop} {us : List α} {xs : List β} {u : α} (h : RL R (u :: us) xs) : ∃ x xs', xs = x :: xs' ∧ R u x ∧ RL R us xs' := by
  cases xs with
  | nil => have := h.1; simp at this
  | cons x xs => exact ⟨x, xs, rfl, h.2 0 u x rfl rfl, by have := h.1; simpa using this, fun i a b ha hb => h.2 (i + 1) a b (by simpa using ha) (by simpa using hb)⟩
theorem take_split {α : Type} (l : List α) (o m n : Nat) : (l.drop o).take (m + n) = (l.drop o).take m ++ (l.drop (o + m)).take n := by
  rw [List.take_add, List.drop_drop]
theorem flat_idx {α : Type} {sz : Nat} : ∀ {es : List (List α)}, (∀ e ∈ es, e.length = sz) → ∀ {j : Nat}, j < es.flatten.length → ∃ e u, es[j / sz]? = some e ∧ e[j % sz]? = some u ∧ es.flatten[j]? = some u
  | [], _, j, h => by simp at h
  | e :: es, hs, j, h => by
    have he : e.length = sz := hs e (by simp)
    have hs' : ∀ e ∈ es, e.length = sz := fun e he => hs e (by simp [he])
    rw [List.flatten_cons] at h ⊢
    by_cases hj : j < sz
    · rw [List.getElem?_append_left (by omega), Nat.div_eq_of_lt hj, Nat.mod_eq_of_lt hj]
      exact ⟨e, e[j]'(by omega), rfl, List.getElem?_eq_getElem _, List.getElem?_eq_getElem _⟩
    · rw [List.length_append] at h
      obtain ⟨e1, u, h1, h2, h3⟩ := flat_idx hs' (j := j - sz) (by omega)
      have h0 : 0 < sz := by
        rcases Nat.eq_zero_or_pos sz with h0 | h0
        · subst h0
          have : es.flatten = [] := List.flatten_eq_nil_iff.2 fun e he => List.eq_nil_of_length_eq_zero (hs' e he)
          rw [this] at h
          simp at h
          omega
        · exact h0
      rw [List.getElem?_append_right (by omega), he, Nat.div_eq_sub_div h0 (by omega), Nat.mod_eq_sub_mod (by omega)]
      exact ⟨e1, u, by simpa using h1, h2, h3⟩
section
variable {H : Type} {enc : TypeId × Value → H} {P : Program} {w : World} {base : Nat} {spare : Nat → Bool} {held : Bool}
theorem fields_open {S : Nat → Prop} {sh : TypeId → Option (List Sh)} {n : Nat} {cs : List Value} (ih : ∀ t cs x r, sh t = some r → DataW.trod enc P w base spare held n t cs = some x → ∃ xs, RL (Rep P S w []) cs xs ∧ RL Mt xs r) :
    ∀ (fs : List Field) (o : Nat) (r : List Sh), fieldsSh sh P o fs = some r → (∀ f ∈ fs, ∃ y, DataW.trod enc P w base spare held n f.type ((cs.drop f.offset).take (P.cellsOf f.type)) = some y) →
      ∃ xs, RL (Rep P S w []) ((cs.drop o).take r.length) xs ∧ RL Mt xs r
  | [], o, r, h, _ => by
    simp only [fieldsSh, Option.some.injEq] at h
    subst h
    exact ⟨[], by simpa using RL.nil, RL.nil⟩
  | f :: fs, o, r, h, hf => by
    unfold fieldsSh at h
    split at h
    · rename_i ho
      obtain ⟨r1, h1, h2⟩ := Option.bind_eq_some_iff.1 h
      split at h2
      · rename_i hl
        obtain ⟨r2, h3, h4⟩ := Option.map_eq_some_iff.1 h2
        subst h4
        obtain ⟨y, hy⟩ := hf f (by simp)
        obtain ⟨xs1, a1, a2⟩ := ih _ _ _ _ h1 hy
        obtain ⟨xs2, b1, b2⟩ := fields_open ih fs (o + r1.length) r2 h3 fun f hf' => hf f (by simp [hf'])
        refine ⟨xs1 ++ xs2, ?_, a2.append b2⟩
        rw [List.length_append, take_split]
        rw [ho, ← hl] at a1
        exact a1.append b1
      · cases h2
    · cases h
theorem copies_open {S : Nat → Prop} {r : List Sh} {n c : Nat} {e : TypeId} {cs : List Value} (hr : r.length = c) (ih : ∀ cs x, DataW.trod enc P w base spare held n e cs = some x → ∃ xs, RL (Rep P S w []) cs xs ∧ RL Mt xs r) :
    ∀ (m o : Nat), (∀ i, i < m → ∃ y, DataW.trod enc P w base spare held n e ((cs.drop (o + i * c)).take c) = some y) → ∃ xs, RL (Rep P S w []) ((cs.drop o).take (m * c)) xs ∧ RL Mt xs (copies r m)
  | 0, o, _ => ⟨[], by simpa using RL.nil, RL.nil⟩
  | m + 1, o, h => by
    obtain ⟨y, hy⟩ := h 0 (by omega)
    rw [Nat.zero_mul, Nat.add_zero] at hy
    obtain ⟨xs1, a1, a2⟩ := ih _ _ hy
    obtain ⟨xs2, b1, b2⟩ := copies_open hr ih m (o + c) fun i hi => by
      have := h (i + 1) (by omega)
      rw [show o + (i + 1) * c = o + c + i * c by rw [Nat.succ_mul]; omega] at this
      exact this
    refine ⟨xs1 ++ xs2, ?_, a2.append b2⟩
    rw [Nat.succ_mul, Nat.add_comm (m * c) c, take_split]
    exact a1.append b1
theorem Rep.small {S : Nat → Prop} {A : Option Addr} {len c : Nat} {es : List (List AV)} (h : Rep P S w [] (.slice A len c) (.ro es)) : es.length ≤ maxLen := by
  obtain ⟨-, A', c', sz, us, e, h1, h2, -⟩ := h.ro_inv
  exact Nat.le_trans h1 h2
theorem open_sh : ∀ (m fuel : Nat) (t : TypeId) (cs : List Value) (x : DataW H × List MemPlace) (r : List Sh), shOf P m t = some r → DataW.trod enc P w base spare held fuel t cs = some x → ∃ xs, RL (Rep P (fun k => k < w.heap.size) w []) cs xs ∧ RL Mt xs r
  | 0, _, _, _, _, _, h, _ => by simp [shOf] at h
  | m + 1, fuel, t, cs, x, r, h, hx => by
    unfold shOf at h
    split at h
    · rename_i k ht
      injection h with h; subst h
      obtain ⟨n, rfl, _, hw⟩ := DataW.trod_int ht hx
      exact ⟨_, .cons (.v rfl) .nil, .cons (.int hw) .nil⟩
    · rename_i ht
      injection h with h; subst h
      obtain ⟨s, rfl, _, hw⟩ := DataW.trod_string ht hx
      exact ⟨_, .cons (.v rfl) .nil, .cons (.str hw) .nil⟩
    · rename_i ht
      injection h with h; subst h
      obtain ⟨b, rfl, _⟩ := DataW.trod_bool ht hx
      exact ⟨_, .cons (.v rfl) .nil, .cons .bool .nil⟩
    · rename_i e ht
      obtain ⟨row, h1, h2⟩ := Option.map_eq_some_iff.1 h
      subst h2
      rcases Go.Deep.open_slice ht hx with ⟨rfl, _⟩ | ⟨a, len, cap, mm, n, D, Pl, rfl, hb, hl, hm, hmm, _, hel⟩
      · exact ⟨_, .cons rep_ro_nil .nil, .cons (.sl (Nat.zero_le _) (by simp) (by simp)) .nil⟩
      · have hlm : len ≤ mm := by rw [hmm]; split <;> omega
        have key : ∀ i, i < len → ∃ p : List Value × List AV, w.cells? base (a.add (i * P.cellsOf e)) (P.cellsOf e) = some p.1 ∧ RL (Rep P (fun k => k < w.heap.size) w []) p.1 p.2 ∧ RL Mt p.2 row := fun i hi => by
          obtain ⟨cs', c1, c2⟩ := hel i (by omega)
          obtain ⟨xs, c3, c4⟩ := open_sh m _ _ _ _ _ h1 c2
          exact ⟨(cs', xs), c1, c3, c4⟩
        obtain ⟨F, hF⟩ := Go.Deep.choose_lt key
        have lv : ∀ l ∈ (List.range len).map (fun i => (F i).1), l.length = P.cellsOf e := fun l hl' => by
          obtain ⟨i, hi, rfl⟩ := List.mem_map.1 hl'
          exact (World.cells?_some (hF i (List.mem_range.1 hi)).1).2.1
        have lx : ∀ l ∈ (List.range len).map (fun i => (F i).2), l.length = P.cellsOf e := fun l hl' => by
          obtain ⟨i, hi, rfl⟩ := List.mem_map.1 hl'
          rw [← (hF i (List.mem_range.1 hi)).2.1.1]
          exact (World.cells?_some (hF i (List.mem_range.1 hi)).1).2.1
        have hlen : ((List.range len).map fun i => (F i).2).length = len := by simp
        have hfl : ((List.range len).map fun i => (F i).1).flatten.length = ((List.range len).map fun i => (F i).2).flatten.length := by
          rw [List.length_flatten, List.length_flatten]
          congr 1
          rw [List.map_map, List.map_map]
          exact List.map_congr_left fun i hi => (hF i (List.mem_range.1 hi)).2.1.1
        have hrep : Rep P (fun k => k < w.heap.size) w [] (.slice (some a) ((List.range len).map fun i => (F i).2).length cap) (.ro ((List.range len).map fun i => (F i).2)) := by
          refine Rep.ro (sz := P.cellsOf e) (us := ((List.range len).map fun i => (F i).1).flatten) (by rw [hlen]; exact hl) hm lx (fun hn => ?_) hfl fun i u x hu hx' => ?_
          · have hget : ∀ j u, ((List.range len).map fun i => (F i).1).flatten[j]? = some u → w.cell? (a.add j) = some u := fun j u hu => by
              obtain ⟨l, u', q1, q2, q3⟩ := flat_idx lv (j := j) (List.getElem?_eq_some_iff.1 hu).1
              rw [q3] at hu
              injection hu with hu; subst hu
              rw [List.getElem?_map] at q1
              have hq : j / P.cellsOf e < len := by
                have := (List.getElem?_eq_some_iff.1 (show ((List.range len).map fun i => (F i).1)[j / P.cellsOf e]? = some l by rw [List.getElem?_map]; exact q1)).1
                simpa using this
              rw [List.getElem?_range hq] at q1
              injection q1 with q1; subst q1
              have hc := (World.cells?_some (hF _ hq).1)
              have hp : 0 < P.cellsOf e := by
                have := (List.getElem?_eq_some_iff.1 q2).1
                rw [hc.2.1] at this; omega
              have hcell := hc.2.2 (j % P.cellsOf e) (Nat.mod_lt _ hp)
              rw [q2, Go.Deep.add_add, Nat.mul_comm, Nat.div_add_mod] at hcell
              exact hcell
            have h0 := hget 0 _ (List.getElem?_eq_getElem hn)
            obtain ⟨g, o, sp⟩ := a
            have : sp = none := by simpa [Addr.add] using World.cell?_spot h0
            subst this
            refine ⟨g, o, rfl, World.block_lt_of_cell? w _ h0, fun j u hu => ?_⟩
            have := hget j u hu
            rw [add_off] at this
            exact this
          · obtain ⟨l, u', q1, q2, q3⟩ := flat_idx lv (j := i) (List.getElem?_eq_some_iff.1 hu).1
            obtain ⟨l2, u2, p1, p2, p3⟩ := flat_idx lx (j := i) (List.getElem?_eq_some_iff.1 hx').1
            rw [q3] at hu
            injection hu with hu; subst hu
            rw [p3] at hx'
            injection hx' with hx'; subst hx'
            rw [List.getElem?_map] at q1 p1
            have hq : i / P.cellsOf e < len := by
              have := (List.getElem?_eq_some_iff.1 (show ((List.range len).map fun i => (F i).1)[i / P.cellsOf e]? = some l by rw [List.getElem?_map]; exact q1)).1
              simpa using this
            rw [List.getElem?_range hq] at q1 p1
            injection q1 with q1; subst q1
            injection p1 with p1; subst p1
            exact (hF _ hq).2.1.2 _ _ _ q2 p2
        rw [hlen] at hrep
        refine ⟨_, .cons hrep .nil, .cons (.sl hrep.small (fun l hl' => ?_) fun l hl' => ?_) .nil⟩
        · obtain ⟨i, hi, rfl⟩ := List.mem_map.1 hl'
          exact (hF i (List.mem_range.1 hi)).2.2.1
        · obtain ⟨i, hi, rfl⟩ := List.mem_map.1 hl'
          exact (hF i (List.mem_range.1 hi)).2.2.2
    · rename_i fs ht
      obtain ⟨r1, h1, h2⟩ := Option.bind_eq_some_iff.1 h
      split at h2
      · rename_i hl
        injection h2 with h2; subst h2
        obtain ⟨ys, n, _, _, hcl, hyl, hf⟩ := DataW.trod_struct ht hx
        obtain ⟨xs, a1, a2⟩ := fields_open (fun t cs x r => open_sh m n t cs x r) fs.toList 0 r1 h1 (cs := cs) fun f hf' => by
          obtain ⟨i, hi, rfl⟩ := List.getElem_of_mem hf'
          have := hf i fs.toList[i] (by simp at hi; simp [hi])
          exact ⟨_, this.trans (List.getElem?_eq_getElem (by rw [hyl]; simpa using hi))⟩
        rw [List.drop_zero, hl, ← hcl, List.take_length] at a1
        exact ⟨xs, a1, a2⟩
      · cases h2
    · rename_i k e ht
      obtain ⟨r1, h1, h2⟩ := Option.bind_eq_some_iff.1 h
      split at h2
      · rename_i hl
        injection h2 with h2; subst h2
        obtain ⟨ys, n, _, _, hcl, hyl, hf⟩ := DataW.trod_array ht hx
        obtain ⟨xs, a1, a2⟩ := copies_open (cs := cs) hl.1 (fun cs x hx => open_sh m n e cs x r1 h1 hx) k 0 fun i hi => by
          have := hf i hi
          rw [Nat.zero_add]
          exact ⟨_, this.trans (List.getElem?_eq_getElem (by omega))⟩
        rw [List.drop_zero, ← hl.2, ← hcl, List.take_length] at a1
        exact ⟨xs, a1, a2⟩
      · cases h2
    · cases h
/-- A datum of one cell. -/
theorem open_one {m : Nat} {t : TypeId} {v : Value} {s : Sh} {d : DataW H} {ps : List MemPlace} (hs : shOf P m t = some [s]) (hv : v.cells = #[v]) (h : DataW.Trod enc P w base spare held t v d ps) : ∃ x, AggOK P (fun k => k < w.heap.size) w (insT []) [] v x ∧ Mt x s := by
  obtain ⟨fuel, hf⟩ := h
  rw [hv] at hf
  obtain ⟨xs, a1, a2⟩ := open_sh m fuel t [v] _ [s] hs hf
  obtain ⟨x, xs', rfl, b1, b2⟩ := a1.cons'
  obtain ⟨x2, xs2, q, c1, -⟩ := a2.cons'
  injection q with q _
  subst q
  refine ⟨x, ?_, c1⟩
  have hr := b1.ref (T := insT []) (vals := [])
  cases c1 <;> exact hr
end
theorem Spec.small {P : Program} {f : FuncId} {ins xs : List AV} {Q : List AV → List AV → Prop} {es : List (List AV)} (k : Nat) (hk : xs[k]? = some (.ro es)) (h : es.length ≤ 9223372036854775807 → Spec P f ins xs Q) : Spec P f ins xs Q := fun w S vals bss vs c => by
  obtain ⟨u, hu, hr⟩ := c.args.at_ hk
  have hr : Rep P S w [] u (.ro es) := hr
  obtain ⟨-, A, cc, sz, us, e, h1, h2, -⟩ := hr.ro_inv
  exact h (Nat.le_trans (Nat.le_trans h1 h2) (by decide)) w S vals bss vs c
/-- What a cell may hold, taken apart. -/
theorem Mt.i64 {x : AV} (h : Mt x (.int .i64)) : ∃ n, x = .v (.int .i64 n) := by cases h; exact ⟨_, rfl⟩
theorem Mt.u8 {x : AV} (h : Mt x (.int .u8)) : ∃ n, x = .v (.int .u8 n) := by cases h; exact ⟨_, rfl⟩
theorem Mt.sl_ {x : AV} {r : List Sh} (h : Mt x (.sl r)) : ∃ es, x = .ro es := by cases h; exact ⟨_, rfl⟩
end Go.Proofs.YtfmnaigedgmhoaaDoor
namespace Go.Proofs.YtfmnaigedgmhoaaDoor
open Go.RowKit
set_option linter.unusedSimpArgs false
set_option linter.unusedVariables false
set_option maxRecDepth 100000
def rs100 (r : Report) : Bool := decide ((r.read.size : Int) ≤ 100)
def smallT (x : Ev) : Bool := (((((decide ((x.text.size : Int) ≤ 2100) && decide ((x.reports.length : Int) ≤ 40)) && decide ((x.ops.length : Int) ≤ 70)) && decide ((x.fl.carrier.size : Int) ≤ 100)) && decide ((x.fl.suffix.size : Int) ≤ 100)) && decide ((x.rev.fl.carrier.size : Int) ≤ 100)) && decide ((x.rev.fl.suffix.size : Int) ≤ 100)
def smallE (x : Ev) : Bool := x.reports.all rs100 && smallT x
abbrev aw1 : Ev := { ev0 6 with node := 3 }
abbrev aw2 : Ev := { ev0 1 with text := ⟨#[65]⟩ }
theorem aw1_good : Good aw1 := ⟨(by decide : (1 : Int) ≤ 6 ∧ (6 : Int) ≤ 14), rfl, z3, mem1 rfl, rfl⟩
theorem aw2_good : Good aw2 := ⟨(by decide : (1 : Int) ≤ 1 ∧ (1 : Int) ≤ 14), rfl, ⟨by decide, Nat.zero_le _, Nat.zero_le _⟩, mem1 rfl, rfl⟩
theorem aw1_enc : encB aw1 = [6, 0, 0, 0, 3] := by decide
theorem aw2_enc : encB aw2 = [1, 0, 0, 0, 1, 65] := by decide
theorem aw_bad : decV [4, 0, 0, 0, 7, 2] = (ev0 0, 3) := by
  have h : decB [4, 0, 0, 0, 7, 2] = none := rfl
  unfold decV
  dsimp only
  rw [if_neg (by decide), h]
theorem op_seqT {C : Cx} {o : Oper} {ev : Operand → AV} {T : Sl} {t yt : TypeId} {p q : Operand} {x : ByteArray} (ho : o.op = .binOp .eql t p q yt) (hp : ev p = .v (.string x)) (hq : ev q = .v (.string x)) : OpP C o ev T (.v (.bool true)) := by
  have h := op_seql (C := C) (T := T) ho hp hq
  rwa [beq_self_eq_true] at h
theorem le_aw1 : RL Le1 (evC aw1 (.v (.slice none 0 0)) (.v (.slice none 0 0))) aw1.av := by
  repeat (first | exact RL.nil | refine RL.cons Le1.same ?_ | refine RL.cons Le1.nil ?_)
theorem le_aw2 : RL Le1 (evC aw2 (.v (.slice none 0 0)) (.v (.slice none 0 0))) aw2.av := by
  repeat (first | exact RL.nil | refine RL.cons Le1.same ?_ | refine RL.cons Le1.nil ?_)
theorem C19 : Fn Tryd.prog 19 [] [] [.v (.bool true)] [] := by
  have c1 : Fn Tryd.prog 13 [] [.agg aw1.av] [.ro (([6, 0, 0, 0, 3] : BL).map bv), .v (.int .i64 0)] [] := by
    have h := C13 (x := aw1) aw1_good.sm
    rwa [enc_ok aw1_good, aw1_enc] at h
  have c2 : Fn Tryd.prog 13 [] [.agg aw2.av] [.ro (([1, 0, 0, 0, 1, 65] : BL).map bv), .v (.int .i64 0)] [] := by
    have h := C13 (x := aw2) aw2_good.sm
    rwa [enc_ok aw2_good, aw2_enc] at h
  have c3 : Fn Tryd.prog 20 [] [.ro (([6, 0, 0, 0, 3] : BL).map bv)] [.agg aw1.av, .v (.int .i64 0)] [] := by
    have h := C20 (b := [6, 0, 0, 0, 3]) (by decide)
    rwa [show decV [6, 0, 0, 0, 3] = (aw1, 0) by rw [← aw1_enc]; exact dec_enc aw1_good] at h
  have c4 : Fn Tryd.prog 20 [] [.ro (([4, 0, 0, 0, 7, 2] : BL).map bv)] [.agg (ev0 0).av, .v (.int .i64 3)] [] := by
    have h := C20 (b := [4, 0, 0, 0, 7, 2]) (by decide)
    rwa [aw_bad] at h
  refine Spec.body Tryd.func19 rfl Tryd.ntmps19 (by simp) rfl ?_; intro S0 own0 v0 w0 gl
  (refine AW.seq_k ?_; intro K hK)
  refine AW.region ?_
  refine awP (op_assign rfl rfl) ?_
  refine AWL.nil ?_
  (refine hK _ ?_; clear hK K; (try simp only [nA, Nat.reduceBEq, Nat.reduceEqDiff, ↓reduceIte, Nat.reduceAdd, Nat.reduceSub]))
  (refine AW.seq_k ?_; intro K hK)
  refine AW.region ?_
  refine awP (op_build2 (xs := [_, .v (.int .i64 0), .v (.string ⟨#[]⟩), .v (.int .i64 0), .v (.int .i64 0), .v (.int .i64 0), _, .v (.int .i64 0), .v (.bool false), .v (.slice none 0 0), .v (.int .i64 0), .v (.int .i64 0), .v (.string ⟨#[]⟩), .v (.int .i64 0), .v (.string ⟨#[]⟩), .v (.int .i64 0), .v (.int .i64 0), .v (.int .i64 0), .v (.int .i64 0), .v (.int .i64 0), .v (.int .i64 0), .v (.int .i64 0), .v (.int .i64 0), .v (.int .i64 0), .v (.int .i64 0), .v (.int .i64 0), .v (.int .i64 0), .v (.slice none 0 0), .v (.string ⟨#[]⟩), .v (.int .i64 0), .v (.string ⟨#[]⟩), .v (.int .i64 0)]) rfl pl35 ze35 [(0, [_]), (4, [_])] rfl rfl rfl) ?_
  refine AWL.gh (Gh.tmp 10 (cs' := aw1.av) (Nat.le_of_ble_eq_true rfl) rfl le_aw1) ?_; (try simp only [nA, Nat.reduceBEq, Nat.reduceEqDiff, ↓reduceIte, Nat.reduceAdd, Nat.reduceSub]); refine awJ (op_call (b := false) rfl en13 c1 (RL.cons (by first | exact View.same rfl | exact View.nil | exact View.rof | exact View.src .ro | exact View.src .rof | exact View.src (.sl rfl rfl) | exact View.ptr rfl rfl rfl) (RL.nil)) rfl (fun h => by cases h) rfl rfl) ?_; (try simp only [nA, Nat.reduceBEq, Nat.reduceEqDiff, ↓reduceIte, Nat.reduceAdd, Nat.reduceSub])
  refine awP (op_move rfl rfl) ?_
  refine awP (op_extract rfl rfl rfl) ?_
  refine awP (op_extract rfl rfl rfl) ?_
  refine awP (op_assign rfl rfl) ?_
  refine awP (op_assign rfl rfl) ?_
  refine AWL.nil ?_
  (refine hK _ ?_; clear hK K; (try simp only [nA, Nat.reduceBEq, Nat.reduceEqDiff, ↓reduceIte, Nat.reduceAdd, Nat.reduceSub]))
  (refine AW.seq_k ?_; intro K hK)
  refine AW.region ?_
  refine awP (op_build2 (xs := [_, .v (.int .i64 0), _, .v (.int .i64 0), .v (.int .i64 0), .v (.int .i64 0), .v (.int .i64 0), .v (.int .i64 0), .v (.bool false), .v (.slice none 0 0), .v (.int .i64 0), .v (.int .i64 0), .v (.string ⟨#[]⟩), .v (.int .i64 0), .v (.string ⟨#[]⟩), .v (.int .i64 0), .v (.int .i64 0), .v (.int .i64 0), .v (.int .i64 0), .v (.int .i64 0), .v (.int .i64 0), .v (.int .i64 0), .v (.int .i64 0), .v (.int .i64 0), .v (.int .i64 0), .v (.int .i64 0), .v (.int .i64 0), .v (.slice none 0 0), .v (.string ⟨#[]⟩), .v (.int .i64 0), .v (.string ⟨#[]⟩), .v (.int .i64 0)]) rfl pl35 ze35 [(0, [_]), (2, [_])] rfl rfl rfl) ?_
  refine AWL.gh (Gh.tmp 15 (cs' := aw2.av) (Nat.le_of_ble_eq_true rfl) rfl le_aw2) ?_; (try simp only [nA, Nat.reduceBEq, Nat.reduceEqDiff, ↓reduceIte, Nat.reduceAdd, Nat.reduceSub]); refine awJ (op_call (b := false) rfl en13 c2 (RL.cons (by first | exact View.same rfl | exact View.nil | exact View.rof | exact View.src .ro | exact View.src .rof | exact View.src (.sl rfl rfl) | exact View.ptr rfl rfl rfl) (RL.nil)) rfl (fun h => by cases h) rfl rfl) ?_; (try simp only [nA, Nat.reduceBEq, Nat.reduceEqDiff, ↓reduceIte, Nat.reduceAdd, Nat.reduceSub])
  refine awP (op_move rfl rfl) ?_
  refine awP (op_extract rfl rfl rfl) ?_
  refine awP (op_extract rfl rfl rfl) ?_
  refine awP (op_assign rfl rfl) ?_
  refine awP (op_assign rfl rfl) ?_
  refine AWL.nil ?_
  (refine hK _ ?_; clear hK K; (try simp only [nA, Nat.reduceBEq, Nat.reduceEqDiff, ↓reduceIte, Nat.reduceAdd, Nat.reduceSub]))
  (refine AW.seq_k ?_; intro K hK)
  refine AW.region ?_
  refine awJ (OpJ.frz (op_buildSlice rfl [(0, bv 6), (1, bv 0), (2, bv 0), (3, bv 0), (4, bv 3)] (([6, 0, 0, 0, 3] : BL).map bv) Tryd.underlying43 ze5 rfl (by decide) rfl (bv_len _) rfl (Nat.le_of_ble_eq_true rfl) (by decide)) (bv_flat _) rfl) ?_; (try simp only [nA, Nat.reduceBEq, Nat.reduceEqDiff, ↓reduceIte, Nat.reduceAdd, Nat.reduceSub])
  refine awJ (op_call (b := false) rfl en20 (c3) (RL.cons (by first | exact View.same rfl | exact View.nil | exact View.rof | exact View.src .ro | exact View.src .rof | exact View.src (.sl rfl rfl) | exact View.ptr rfl rfl rfl) (RL.nil)) rfl (fun h => by cases h) rfl rfl) ?_; (try simp only [nA, Nat.reduceBEq, Nat.reduceEqDiff, ↓reduceIte, Nat.reduceAdd, Nat.reduceSub])
  refine awP (op_move rfl rfl) ?_
  refine awP (op_extract rfl rfl rfl) ?_
  refine awP (op_extract rfl rfl rfl) ?_
  refine awJ (op_alloc rfl ze35 rfl) ?_; (try simp only [nA, Nat.reduceBEq, Nat.reduceEqDiff, ↓reduceIte, Nat.reduceAdd, Nat.reduceSub])
  refine awJ (op_store rfl rfl rfl rfl rfl rfl sz35 rfl (Nat.le_of_ble_eq_true rfl) rfl) ?_; (try simp only [nA, Nat.reduceBEq, Nat.reduceEqDiff, ↓reduceIte, Nat.reduceAdd, Nat.reduceSub])
  refine awP (op_assign rfl rfl) ?_
  refine AWL.nil ?_
  (refine hK _ ?_; clear hK K; (try simp only [nA, Nat.reduceBEq, Nat.reduceEqDiff, ↓reduceIte, Nat.reduceAdd, Nat.reduceSub]))
  (refine AW.seq_k ?_; intro K hK)
  refine AW.region ?_
  refine awJ (OpJ.frz (op_buildSlice rfl [(0, bv 4), (1, bv 0), (2, bv 0), (3, bv 0), (4, bv 7), (5, bv 2)] (([4, 0, 0, 0, 7, 2] : BL).map bv) Tryd.underlying43 ze5 rfl (by decide) rfl (bv_len _) rfl (Nat.le_of_ble_eq_true rfl) (by decide)) (bv_flat _) rfl) ?_; (try simp only [nA, Nat.reduceBEq, Nat.reduceEqDiff, ↓reduceIte, Nat.reduceAdd, Nat.reduceSub])
  refine awJ (op_call (b := false) rfl en20 (c4) (RL.cons (by first | exact View.same rfl | exact View.nil | exact View.rof | exact View.src .ro | exact View.src .rof | exact View.src (.sl rfl rfl) | exact View.ptr rfl rfl rfl) (RL.nil)) rfl (fun h => by cases h) rfl rfl) ?_; (try simp only [nA, Nat.reduceBEq, Nat.reduceEqDiff, ↓reduceIte, Nat.reduceAdd, Nat.reduceSub])
  refine awP (op_move rfl rfl) ?_
  refine awP (op_extract rfl rfl rfl) ?_
  refine awP (op_extract rfl rfl rfl) ?_
  refine awJ (op_alloc rfl ze35 rfl) ?_; (try simp only [nA, Nat.reduceBEq, Nat.reduceEqDiff, ↓reduceIte, Nat.reduceAdd, Nat.reduceSub])
  refine awJ (op_store rfl rfl rfl rfl rfl rfl sz35 rfl (Nat.le_of_ble_eq_true rfl) rfl) ?_; (try simp only [nA, Nat.reduceBEq, Nat.reduceEqDiff, ↓reduceIte, Nat.reduceAdd, Nat.reduceSub])
  refine awP (op_assign rfl rfl) ?_
  refine AWL.nil ?_
  (refine hK _ ?_; clear hK K; (try simp only [nA, Nat.reduceBEq, Nat.reduceEqDiff, ↓reduceIte, Nat.reduceAdd, Nat.reduceSub]))
  (refine AW.seq_k ?_; intro K hK)
  refine AW.region (AWL.quiet ?_)
  refine aqP (op_move rfl rfl) ?_
  (first | refine aqP (op_eql rfl rfl rfl) ?_ | refine aqP (op_seql rfl rfl rfl) ?_)
  refine aqP (op_move rfl rfl) ?_
  refine' aqAnd' [_, _, _] [32,33,34] rfl rfl rfl rfl rfl rfl rfl rfl rfl rfl rfl rfl (fun hb => ?_) ?_; rotate_left
  ·
   (try simp only [hcS] at hb)
   refine aqP (op_move rfl rfl) ?_
   refine aqR (op_b2sR (l := [6, 0, 0, 0, 3]) rfl rfl Tryd.underlying43 Tryd.underlying5 Tryd.underlying9 rfl) ?_
   refine aqP (op_seqT (x := ⟨#[6, 0, 0, 0, 3]⟩) rfl rfl rfl) ?_
   (refine aqSeg rfl rfl rfl ?_; repeat (first | exact fun _ _ => rfl | refine upd_out rfl ?_ | refine era_out rfl ?_))
  (try simp only [nA, Nat.reduceBEq, Nat.reduceEqDiff, ↓reduceIte, Nat.reduceAdd, Nat.reduceSub])
  refine aqP (op_move rfl rfl) ?_
  refine' aqAnd' [_, _] [37,38] rfl rfl rfl rfl rfl rfl rfl rfl rfl rfl rfl rfl (fun hb => ?_) ?_; rotate_left
  ·
   (try simp only [hcS] at hb)
   refine aqP (op_move rfl rfl) ?_
   (first | refine aqP (op_eql rfl rfl rfl) ?_ | refine aqP (op_seql rfl rfl rfl) ?_)
   (refine aqSeg rfl rfl rfl ?_; repeat (first | exact fun _ _ => rfl | refine upd_out rfl ?_ | refine era_out rfl ?_))
  (try simp only [nA, Nat.reduceBEq, Nat.reduceEqDiff, ↓reduceIte, Nat.reduceAdd, Nat.reduceSub])
  refine aqP (op_move rfl rfl) ?_
  refine' aqAnd' [_, _, _] [41,42,43] rfl rfl rfl rfl rfl rfl rfl rfl rfl rfl rfl rfl (fun hb => ?_) ?_; rotate_left
  ·
   (try simp only [hcS] at hb)
   refine aqP (op_move rfl rfl) ?_
   refine aqR (op_b2sR (l := [1, 0, 0, 0, 1, 65]) rfl rfl Tryd.underlying43 Tryd.underlying5 Tryd.underlying9 rfl) ?_
   refine aqP (op_seqT (x := ⟨#[1, 0, 0, 0, 1, 65]⟩) rfl rfl rfl) ?_
   (refine aqSeg rfl rfl rfl ?_; repeat (first | exact fun _ _ => rfl | refine upd_out rfl ?_ | refine era_out rfl ?_))
  (try simp only [nA, Nat.reduceBEq, Nat.reduceEqDiff, ↓reduceIte, Nat.reduceAdd, Nat.reduceSub])
  refine aqP (op_move rfl rfl) ?_
  refine' aqAnd' [_, _] [46,47] rfl rfl rfl rfl rfl rfl rfl rfl rfl rfl rfl rfl (fun hb => ?_) ?_; rotate_left
  ·
   (try simp only [hcS] at hb)
   refine aqP (op_move rfl rfl) ?_
   (first | refine aqP (op_eql rfl rfl rfl) ?_ | refine aqP (op_seql rfl rfl rfl) ?_)
   (refine aqSeg rfl rfl rfl ?_; repeat (first | exact fun _ _ => rfl | refine upd_out rfl ?_ | refine era_out rfl ?_))
  (try simp only [nA, Nat.reduceBEq, Nat.reduceEqDiff, ↓reduceIte, Nat.reduceAdd, Nat.reduceSub])
  refine aqP (op_move rfl rfl) ?_
  refine' aqAnd' [_, _, _] [50,51,52] rfl rfl rfl rfl rfl rfl rfl rfl rfl rfl rfl rfl (fun hb => ?_) ?_; rotate_left
  ·
   (try simp only [hcS] at hb)
   (first | refine aqP (op_fa_ptr rfl rfl rfl fl35_0 (by exact sz3) (by decide) rfl) ?_ | refine aqP (op_fa_rop rfl rfl fl35_0 (by exact sz3) (by decide) (Nat.le_of_ble_eq_true rfl) rfl) ?_)
   (first | refine aqR (op_load_ptr1 rfl rfl rfl rfl ag3 rfl rfl) ?_ | refine aqR (op_load_rop1 rfl rfl ag3) ?_)
   (first | refine aqP (op_eql rfl rfl rfl) ?_ | refine aqP (op_seql rfl rfl rfl) ?_)
   (refine aqSeg rfl rfl rfl ?_; repeat (first | exact fun _ _ => rfl | refine upd_out rfl ?_ | refine era_out rfl ?_))
  (try simp only [nA, Nat.reduceBEq, Nat.reduceEqDiff, ↓reduceIte, Nat.reduceAdd, Nat.reduceSub])
  refine aqP (op_move rfl rfl) ?_
  refine' aqAnd' [_, _, _] [55,56,57] rfl rfl rfl rfl rfl rfl rfl rfl rfl rfl rfl rfl (fun hb => ?_) ?_; rotate_left
  ·
   (try simp only [hcS] at hb)
   (first | refine aqP (op_fa_ptr rfl rfl rfl fl35_4 (by exact sz3) (by decide) rfl) ?_ | refine aqP (op_fa_rop rfl rfl fl35_4 (by exact sz3) (by decide) (Nat.le_of_ble_eq_true rfl) rfl) ?_)
   (first | refine aqR (op_load_ptr1 rfl rfl rfl rfl ag3 rfl rfl) ?_ | refine aqR (op_load_rop1 rfl rfl ag3) ?_)
   (first | refine aqP (op_eql rfl rfl rfl) ?_ | refine aqP (op_seql rfl rfl rfl) ?_)
   (refine aqSeg rfl rfl rfl ?_; repeat (first | exact fun _ _ => rfl | refine upd_out rfl ?_ | refine era_out rfl ?_))
  (try simp only [nA, Nat.reduceBEq, Nat.reduceEqDiff, ↓reduceIte, Nat.reduceAdd, Nat.reduceSub])
  refine aqP (op_move rfl rfl) ?_
  refine' aqAnd' [_, _] [60,61] rfl rfl rfl rfl rfl rfl rfl rfl rfl rfl rfl rfl (fun hb => ?_) ?_; rotate_left
  ·
   (try simp only [hcS] at hb)
   refine aqP (op_move rfl rfl) ?_
   (first | refine aqP (op_eql rfl rfl rfl) ?_ | refine aqP (op_seql rfl rfl rfl) ?_)
   (refine aqSeg rfl rfl rfl ?_; repeat (first | exact fun _ _ => rfl | refine upd_out rfl ?_ | refine era_out rfl ?_))
  (try simp only [nA, Nat.reduceBEq, Nat.reduceEqDiff, ↓reduceIte, Nat.reduceAdd, Nat.reduceSub])
  refine aqP (op_assign rfl rfl) ?_
  refine AQ.nil ?_
  (refine hK _ ?_; clear hK K; (try simp only [nA, Nat.reduceBEq, Nat.reduceEqDiff, ↓reduceIte, Nat.reduceAdd, Nat.reduceSub]))
  skip
  refine AW.ret ?_; (try simp only [thenE, inBlk, Nat.reduceEqDiff, ↓reduceIte]); exact RQ.of0 rfl (.tmp (Nat.le_of_ble_eq_true rfl) rfl rfl .nil)
end Go.Proofs.YtfmnaigedgmhoaaDoor
namespace Go.Proofs.YtfmnaigedgmhoaaDoor
open Go.RowKit
set_option linter.unusedSimpArgs false
set_option linter.unusedVariables false
theorem op_slice3_full {C : Cx} {o : Oper} {ev : Operand → AV} {T : Sl} {t e : TypeId} {y q2 q3 : Operand} {es : List (List AV)} {sz n : Nat} {k2 k3 : IntKind} (ho : o.op = .slice t y none (some q2) (some q3)) (hy : ev y = .ro es) (h2 : ev q2 = .v (.int k2 (n : Int))) (h3 : ev q3 = .v (.int k3 (n : Int))) (hn : n = es.length)
    (ht : C.P.underlying t = some (.slice e)) (hs : sizeIs C.P e sz) : OpP C o ev T (.rof es) := by
  subst hn
  intro a w S vals bss hm h
  have h0 := h y (by simp [ho, Op.operands])
  have g2 := h q2 (by simp [ho, Op.operands])
  have g3 := h q3 (by simp [ho, Op.operands])
  rw [hy] at h0
  rw [h2] at g2; rw [h3] at g3
  obtain ⟨-, A, c, sz', us, e1, c1, c2, c3, c4, c5, c6⟩ := (show Rep C.P S w [] (a.eval y) (.ro es) from h0).ro_inv
  have hb : ∀ w', (Instr.sliceBounds true es.length c none (some (a.eval q2)) (some (a.eval q3))).run C.P w' = .ok (0, es.length, es.length) w' := fun w' => by
    rw [TmpOK.v g2, TmpOK.v g3]
    simp [Instr.sliceBounds, Instr.sliceBound, asIntOf, c1, Nat.max_eq_left]
  refine ⟨_, fun w' => by simp only [execOp, ho, e1, Sem.run_bind, Option.map_some, Option.map_none, run_slice_ ht hs w' (hb w'), Result.andThen_ok, Sem.run_pure]; rfl, ?_⟩
  have hA : (if es.length = 0 then A else A.map (·.add (0 * sz))) = A := by
    split
    · rfl
    · rw [Nat.zero_mul]
      cases A with
      | none => rfl
      | some x => obtain ⟨g, oo, p⟩ := x; simp [Addr.add]
  show Rep C.P S w [] (.slice (if es.length = 0 then A else A.map (·.add (0 * sz))) (es.length - 0) (es.length - 0)) (.rof es)
  rw [hA, Nat.sub_zero]
  exact .rof (Nat.le_trans c1 c2) c3 c4 c5 c6
end Go.Proofs.YtfmnaigedgmhoaaDoor
namespace Go.Proofs.YtfmnaigedgmhoaaDoor
open Go.RowKit
set_option linter.unusedSimpArgs false
set_option linter.unusedVariables false
set_option maxRecDepth 100000
theorem hl20 (l : List Int) : (l.take 2000).length ≤ 2000 := by rw [List.length_take]; omega
theorem cE {x : Ev} (h : Good x) : Fn Tryd.prog 13 [] [.agg x.av] [.ro ((encB x).map bv), .v (.int .i64 0)] [] := by
  have c := C13 (x := x) h.sm
  rwa [enc_ok h] at c
end Go.Proofs.YtfmnaigedgmhoaaDoor
namespace Go.Proofs.YtfmnaigedgmhoaaDoor
open Go.RowKit
set_option linter.unusedSimpArgs false
set_option linter.unusedVariables false
set_option maxRecDepth 100000
def Ev.Sn (x : Ev) (n : Nat) : Prop := x.reports.length ≤ n ∧ x.ops.length ≤ n ∧ x.text.size ≤ n ∧ ∀ r ∈ x.reports, r.read.size ≤ n
theorem Ev.Sn.sm {x : Ev} {n : Nat} (h : x.Sn n) (hn : n ≤ 1000000) : x.Sm := ⟨Nat.le_trans h.1 hn, Nat.le_trans h.2.1 hn, Nat.le_trans h.2.2.1 hn, fun r hr => Nat.le_trans (h.2.2.2 r hr) hn⟩
theorem Ev.Sn.up {x : Ev} {n m : Nat} (h : x.Sn n) (hn : n ≤ m) : x.Sn m := ⟨Nat.le_trans h.1 hn, Nat.le_trans h.2.1 hn, Nat.le_trans h.2.2.1 hn, fun r hr => Nat.le_trans (h.2.2.2 r hr) hn⟩
theorem Sn.of {x y : Ev} {n : Nat} (h : x.Sn n) (h1 : y.reports = x.reports) (h2 : y.ops = x.ops) (h3 : y.text = x.text) : y.Sn n := by
  unfold Ev.Sn; rw [h1, h2, h3]; exact h
end Go.Proofs.YtfmnaigedgmhoaaDoor
namespace Go.Proofs.YtfmnaigedgmhoaaDoor
open Go.RowKit
set_option linter.unusedSimpArgs false
set_option linter.unusedVariables false
set_option maxRecDepth 100000
section
variable {C : Cx} {o : Oper} {ev : Operand → AV} {T : Sl} {t yt : TypeId} {p q : Operand} {x y : Bool}
theorem op_beqT (ho : o.op = .binOp .eql t p q yt) (hp : ev p = .v (.bool x)) (hq : ev q = .v (.bool y)) (ht : C.P.underlying t = some .bool) (hxy : x = y) : OpP C o ev T (.v (.bool true)) := by
  have h := op_beql (C := C) (T := T) ho hp hq ht
  rwa [hxy, beq_self_eq_true] at h
end
theorem enc_pos (x : Ev) : 1 ≤ (encB x).length := by unfold encB; simp
theorem pre_len {x : Ev} (cut : Int) : (gmod cut ((encB x).length : Int)).toNat < (encB x).length ∧ gmod cut ((encB x).length : Int) = (((gmod cut ((encB x).length : Int)).toNat : Nat) : Int) := by
  have := gmod_bd (x := cut) (n := ((encB x).length : Int)) (by have := enc_pos x; omega)
  omega
theorem more_eq {x : Ev} (h : Good x) (m : BL) : decide ((decV (encB x ++ m)).2 = 0) = decide ((m.length : Int) = 0) := by
  refine decide_eq_decide.2 ((dec_more h m).trans ?_)
  rw [← List.length_eq_zero_iff]; omega
theorem no_len {n : Nat} (h : 1 ≤ n) (hc : (decide ((0 : Int) ≠ 0) || decide ((n : Int) = 0)) = true) : False := by
  rw [show decide ((0 : Int) ≠ 0) = false from rfl, Bool.false_or, decide_eq_true_eq] at hc; omega
theorem C5 {l : List Int} {cut : Int} {more : BL} : Fn Tryd.prog 5 [] [.ro (l.map iv), .v (.int .i64 cut), .ro (more.map bv)] [.v (.bool true)] [] := by
  refine Spec.small 2 rfl fun hx => ?_
  rw [List.length_map] at hx
  have hX := ev_good (l.take 2000) 0
  have hEl := enc_len hX
  have hEp := enc_pos (evV (l.take 2000) 0).1
  obtain ⟨hn, hne⟩ := pre_len (x := (evV (l.take 2000) 0).1) cut
  have hfin := more_eq hX (more.take (min more.length 50))
  have c21 : Fn Tryd.prog 21 [] [.v (.int .i64 cut), .v (.int .i64 ((encB (evV (l.take 2000) 0).1).length : Nat))] [.v (.int .i64 ((gmod cut ((encB (evV (l.take 2000) 0).1).length : Int)).toNat : Nat))] [] := by
    have h := C21 (x := cut) (n := ((encB (evV (l.take 2000) 0).1).length : Nat)) (by omega)
    rwa [hne] at h
  refine Spec.body Tryd.func5 rfl Tryd.ntmps5 (by simp) rfl ?_; intro S0 own0 v0 w0 gl
  (refine AW.seq_k ?_; intro K hK)
  refine AW.region ?_
  refine awP (op_assign rfl rfl) ?_; (try simp only [nA, Nat.reduceBEq, Nat.reduceEqDiff, ↓reduceIte, Nat.reduceAdd, Nat.reduceSub])
  refine AWL.nil ?_
  (refine hK _ ?_; clear hK K; (try simp only [nA, Nat.reduceBEq, Nat.reduceEqDiff, ↓reduceIte, Nat.reduceAdd, Nat.reduceSub]))
  (refine AW.seq_k ?_; intro K hK)
  refine AW.region ?_
  refine awP (op_move rfl rfl) ?_; (try simp only [nA, Nat.reduceBEq, Nat.reduceEqDiff, ↓reduceIte, Nat.reduceAdd, Nat.reduceSub])
  refine awJ (op_callB rfl en9 (C9) (RL.cons (by first | exact View.same rfl | exact View.nil | exact View.rof | exact View.src .ro | exact View.src .rof | exact View.src (.sl rfl rfl) | exact View.ptr rfl rfl rfl) (RL.nil))) ?_; (try simp only [nA, Nat.reduceBEq, Nat.reduceEqDiff, ↓reduceIte, Nat.reduceAdd, Nat.reduceSub])
  refine awP (op_assign rfl rfl) ?_; (try simp only [nA, Nat.reduceBEq, Nat.reduceEqDiff, ↓reduceIte, Nat.reduceAdd, Nat.reduceSub])
  refine AWL.nil ?_
  (refine hK _ ?_; clear hK K; (try simp only [nA, Nat.reduceBEq, Nat.reduceEqDiff, ↓reduceIte, Nat.reduceAdd, Nat.reduceSub]))
  (refine AW.seq_k ?_; intro K hK)
  refine AW.region ?_
  refine awP (op_move rfl rfl) ?_; (try simp only [nA, Nat.reduceBEq, Nat.reduceEqDiff, ↓reduceIte, Nat.reduceAdd, Nat.reduceSub])
  refine awJ (op_call1 rfl en10 (C10 (l := (l.take 2000)) (k := 0) (hl20 l)) (by exact rfl) (RL.cons .ptr (RL.nil)) (by exact ⟨_, _, _, rfl, rfl, rfl⟩) (by exact rfl) (by exact rfl) (by exact rfl)) ?_; (try simp only [nA, Nat.reduceBEq, Nat.reduceEqDiff, ↓reduceIte, Nat.reduceAdd, Nat.reduceSub])
  refine awJ (op_call (b := false) rfl en13 (cE hX) (RL.cons (by first | exact View.same rfl | exact View.nil | exact View.rof | exact View.src .ro | exact View.src .rof | exact View.src (.sl rfl rfl) | exact View.ptr rfl rfl rfl) (RL.nil)) rfl (fun h => by cases h) rfl rfl) ?_; (try simp only [nA, Nat.reduceBEq, Nat.reduceEqDiff, ↓reduceIte, Nat.reduceAdd, Nat.reduceSub])
  refine awP (op_move rfl rfl) ?_; (try simp only [nA, Nat.reduceBEq, Nat.reduceEqDiff, ↓reduceIte, Nat.reduceAdd, Nat.reduceSub])
  refine awP (op_extract rfl rfl rfl) ?_; (try simp only [nA, Nat.reduceBEq, Nat.reduceEqDiff, ↓reduceIte, Nat.reduceAdd, Nat.reduceSub])
  refine awP (op_extract rfl rfl rfl) ?_; (try simp only [nA, Nat.reduceBEq, Nat.reduceEqDiff, ↓reduceIte, Nat.reduceAdd, Nat.reduceSub])
  refine awP (op_assign rfl rfl) ?_; (try simp only [nA, Nat.reduceBEq, Nat.reduceEqDiff, ↓reduceIte, Nat.reduceAdd, Nat.reduceSub])
  refine awP (op_assign rfl rfl) ?_; (try simp only [nA, Nat.reduceBEq, Nat.reduceEqDiff, ↓reduceIte, Nat.reduceAdd, Nat.reduceSub])
  refine AWL.nil ?_
  (refine hK _ ?_; clear hK K; (try simp only [nA, Nat.reduceBEq, Nat.reduceEqDiff, ↓reduceIte, Nat.reduceAdd, Nat.reduceSub]))
  (refine AW.seq_k ?_; intro K hK)
  (refine AW.seq_k ?_; intro K hK)
  refine AW.region (AWL.quiet ?_)
  refine aqP (op_move rfl rfl) ?_; (try simp only [nA, Nat.reduceBEq, Nat.reduceEqDiff, ↓reduceIte, Nat.reduceAdd, Nat.reduceSub])
  (first | refine aqP (op_neq rfl rfl rfl) ?_ | refine aqP (op_sneq rfl rfl rfl) ?_); (try simp only [nA, Nat.reduceBEq, Nat.reduceEqDiff, ↓reduceIte, Nat.reduceAdd, Nat.reduceSub])
  refine aqP (op_move rfl rfl) ?_; (try simp only [nA, Nat.reduceBEq, Nat.reduceEqDiff, ↓reduceIte, Nat.reduceAdd, Nat.reduceSub])
  refine' aqOr' [_, _, _] [26,27,28] rfl rfl rfl rfl rfl rfl rfl rfl rfl rfl rfl rfl (fun hb => ?_) ?_; rotate_left
  ·
   (try simp only [hcS] at hb)
   refine aqP (op_move rfl rfl) ?_; (try simp only [nA, Nat.reduceBEq, Nat.reduceEqDiff, ↓reduceIte, Nat.reduceAdd, Nat.reduceSub])
   refine aqP (op_len_ro (n := (encB (evV (l.take 2000) 0).1).length) rfl rfl Tryd.underlying43 (.inr (.inl ⟨_, rfl, by simp⟩))) ?_; (try simp only [nA, Nat.reduceBEq, Nat.reduceEqDiff, ↓reduceIte, Nat.reduceAdd, Nat.reduceSub])
   (first | refine aqP (op_eql rfl rfl rfl) ?_ | refine aqP (op_seql rfl rfl rfl) ?_); (try simp only [nA, Nat.reduceBEq, Nat.reduceEqDiff, ↓reduceIte, Nat.reduceAdd, Nat.reduceSub])
   (refine aqSeg rfl rfl rfl ?_; repeat (first | exact fun _ _ => rfl | refine upd_out rfl ?_ | refine era_out rfl ?_))
  (try simp only [nA, Nat.reduceBEq, Nat.reduceEqDiff, ↓reduceIte, Nat.reduceAdd, Nat.reduceSub])
  refine AQ.nil ?_
  (refine hK _ ?_; clear hK K; (try simp only [nA, Nat.reduceBEq, Nat.reduceEqDiff, ↓reduceIte, Nat.reduceAdd, Nat.reduceSub]))
  refine AW.cond rfl rfl rfl (fun hc => ?_) (fun hc => ?_)
  · first | (exfalso; exact no_len hEp hc) | (simp at hc; done) | (simp at hc; omega)
  ·
   (skip); have hc1 := hc; skip
   refine AW.skip ?_
   (refine hK _ ?_; clear hK K; (try simp only [nA, Nat.reduceBEq, Nat.reduceEqDiff, ↓reduceIte, Nat.reduceAdd, Nat.reduceSub]))
   (refine AW.seq_k ?_; intro K hK)
   refine AW.region ?_
   refine awP (op_move rfl rfl) ?_; (try simp only [nA, Nat.reduceBEq, Nat.reduceEqDiff, ↓reduceIte, Nat.reduceAdd, Nat.reduceSub])
   refine awP (op_move rfl rfl) ?_; (try simp only [nA, Nat.reduceBEq, Nat.reduceEqDiff, ↓reduceIte, Nat.reduceAdd, Nat.reduceSub])
   refine awP (op_len_ro (n := (encB (evV (l.take 2000) 0).1).length) rfl rfl Tryd.underlying43 (.inr (.inl ⟨_, rfl, by simp⟩))) ?_; (try simp only [nA, Nat.reduceBEq, Nat.reduceEqDiff, ↓reduceIte, Nat.reduceAdd, Nat.reduceSub])
   refine awJ (OpQ.j (op_callQ (b := true) rfl en21 c21 (RL.cons (by first | exact View.same rfl | exact View.nil | exact View.rof | exact View.src .ro | exact View.src .rof | exact View.src (.sl rfl rfl) | exact View.ptr rfl rfl rfl) (RL.cons (by first | exact View.same rfl | exact View.nil | exact View.rof | exact View.src .ro | exact View.src .rof | exact View.src (.sl rfl rfl) | exact View.ptr rfl rfl rfl) (RL.nil))) rfl)) ?_; (try simp only [nA, Nat.reduceBEq, Nat.reduceEqDiff, ↓reduceIte, Nat.reduceAdd, Nat.reduceSub])
   refine awP (op_assign rfl rfl) ?_; (try simp only [nA, Nat.reduceBEq, Nat.reduceEqDiff, ↓reduceIte, Nat.reduceAdd, Nat.reduceSub])
   refine AWL.nil ?_
   (refine hK _ ?_; clear hK K; (try simp only [nA, Nat.reduceBEq, Nat.reduceEqDiff, ↓reduceIte, Nat.reduceAdd, Nat.reduceSub]))
   (refine AW.seq_k ?_; intro K hK)
   refine AW.region ?_
   refine awP (op_move rfl rfl) ?_; (try simp only [nA, Nat.reduceBEq, Nat.reduceEqDiff, ↓reduceIte, Nat.reduceAdd, Nat.reduceSub])
   refine awP (op_move rfl rfl) ?_; (try simp only [nA, Nat.reduceBEq, Nat.reduceEqDiff, ↓reduceIte, Nat.reduceAdd, Nat.reduceSub])
   refine awP (op_slice_ro 0 (gmod cut ((encB (evV (l.take 2000) 0).1).length : Int)).toNat rfl (.inl rfl) (by exact rfl) (by exact ⟨_, rfl⟩) (Nat.zero_le _) (by rw [List.length_map]; omega) Tryd.underlying43 sz5 (bv_len _) (es' := ((encB (evV (l.take 2000) 0).1).take (gmod cut ((encB (evV (l.take 2000) 0).1).length : Int)).toNat).map bv) (by simp [List.map_take])) ?_; (try simp only [nA, Nat.reduceBEq, Nat.reduceEqDiff, ↓reduceIte, Nat.reduceAdd, Nat.reduceSub])
   refine awJ (op_call (b := false) rfl en20 (C20 (b := (encB (evV (l.take 2000) 0).1).take (gmod cut ((encB (evV (l.take 2000) 0).1).length : Int)).toNat) (by rw [List.length_take]; omega)) (RL.cons (by first | exact View.same rfl | exact View.nil | exact View.rof | exact View.src .ro | exact View.src .rof | exact View.src (.sl rfl rfl) | exact View.ptr rfl rfl rfl) (RL.nil)) rfl (fun h => by cases h) rfl rfl) ?_; (try simp only [nA, Nat.reduceBEq, Nat.reduceEqDiff, ↓reduceIte, Nat.reduceAdd, Nat.reduceSub])
   refine awP (op_move rfl rfl) ?_; (try simp only [nA, Nat.reduceBEq, Nat.reduceEqDiff, ↓reduceIte, Nat.reduceAdd, Nat.reduceSub])
   refine awP (op_extract rfl rfl rfl) ?_; (try simp only [nA, Nat.reduceBEq, Nat.reduceEqDiff, ↓reduceIte, Nat.reduceAdd, Nat.reduceSub])
   refine awP (op_extract rfl rfl rfl) ?_; (try simp only [nA, Nat.reduceBEq, Nat.reduceEqDiff, ↓reduceIte, Nat.reduceAdd, Nat.reduceSub])
   refine awJ (op_alloc rfl ze35 rfl) ?_; (try simp only [nA, Nat.reduceBEq, Nat.reduceEqDiff, ↓reduceIte, Nat.reduceAdd, Nat.reduceSub])
   refine awJ (op_store rfl rfl rfl rfl rfl rfl sz35 rfl (Nat.le_of_ble_eq_true rfl) rfl) ?_; (try simp only [nA, Nat.reduceBEq, Nat.reduceEqDiff, ↓reduceIte, Nat.reduceAdd, Nat.reduceSub])
   refine awP (op_assign rfl rfl) ?_; (try simp only [nA, Nat.reduceBEq, Nat.reduceEqDiff, ↓reduceIte, Nat.reduceAdd, Nat.reduceSub])
   refine AWL.nil ?_
   (refine hK _ ?_; clear hK K; (try simp only [nA, Nat.reduceBEq, Nat.reduceEqDiff, ↓reduceIte, Nat.reduceAdd, Nat.reduceSub]))
   (refine AW.seq_k ?_; intro K hK)
   (refine AW.seq_k ?_; intro K hK)
   refine AW.region ?_
   refine awP (op_move rfl rfl) ?_; (try simp only [nA, Nat.reduceBEq, Nat.reduceEqDiff, ↓reduceIte, Nat.reduceAdd, Nat.reduceSub])
   (first | refine awP (op_eql rfl rfl rfl) ?_ | refine awP (op_seql rfl rfl rfl) ?_); (try simp only [nA, Nat.reduceBEq, Nat.reduceEqDiff, ↓reduceIte, Nat.reduceAdd, Nat.reduceSub])
   refine AWL.nil ?_
   (refine hK _ ?_; clear hK K; (try simp only [nA, Nat.reduceBEq, Nat.reduceEqDiff, ↓reduceIte, Nat.reduceAdd, Nat.reduceSub]))
   refine AW.cond rfl rfl rfl (fun hc => ?_) (fun hc => ?_)
   · first | (exfalso; exact dec_pre hX hn (of_decide_eq_true hc)) | (simp at hc; done) | (simp at hc; omega)
   ·
    (skip); have hc2 := hc; skip
    refine AW.skip ?_
    (refine hK _ ?_; clear hK K; (try simp only [nA, Nat.reduceBEq, Nat.reduceEqDiff, ↓reduceIte, Nat.reduceAdd, Nat.reduceSub]))
    (refine AW.seq_k ?_; intro K hK)
    refine AW.region ?_
    refine awP (op_move rfl rfl) ?_; (try simp only [nA, Nat.reduceBEq, Nat.reduceEqDiff, ↓reduceIte, Nat.reduceAdd, Nat.reduceSub])
    refine awP (op_move rfl rfl) ?_; (try simp only [nA, Nat.reduceBEq, Nat.reduceEqDiff, ↓reduceIte, Nat.reduceAdd, Nat.reduceSub])
    refine awP (op_len_ro (n := more.length) rfl rfl Tryd.underlying43 (.inr (.inl ⟨_, rfl, by simp⟩))) ?_; (try simp only [nA, Nat.reduceBEq, Nat.reduceEqDiff, ↓reduceIte, Nat.reduceAdd, Nat.reduceSub])
    refine awP (op_min (r := (((min more.length 50) : Nat) : Int)) rfl rfl rfl (by split <;> omega)) ?_; (try simp only [nA, Nat.reduceBEq, Nat.reduceEqDiff, ↓reduceIte, Nat.reduceAdd, Nat.reduceSub])
    refine awP (op_slice_ro 0 (min more.length 50) rfl (.inl rfl) (by exact rfl) (by exact ⟨_, rfl⟩) (Nat.zero_le _) (by rw [List.length_map]; omega) Tryd.underlying43 sz5 (bv_len _) (es' := (more.take (min more.length 50)).map bv) (by simp [List.map_take])) ?_; (try simp only [nA, Nat.reduceBEq, Nat.reduceEqDiff, ↓reduceIte, Nat.reduceAdd, Nat.reduceSub])
    refine awP (op_assign rfl rfl) ?_; (try simp only [nA, Nat.reduceBEq, Nat.reduceEqDiff, ↓reduceIte, Nat.reduceAdd, Nat.reduceSub])
    refine AWL.nil ?_
    (refine hK _ ?_; clear hK K; (try simp only [nA, Nat.reduceBEq, Nat.reduceEqDiff, ↓reduceIte, Nat.reduceAdd, Nat.reduceSub]))
    (refine AW.seq_k ?_; intro K hK)
    refine AW.region ?_
    refine awP (op_move rfl rfl) ?_; (try simp only [nA, Nat.reduceBEq, Nat.reduceEqDiff, ↓reduceIte, Nat.reduceAdd, Nat.reduceSub])
    refine awP (op_move rfl rfl) ?_; (try simp only [nA, Nat.reduceBEq, Nat.reduceEqDiff, ↓reduceIte, Nat.reduceAdd, Nat.reduceSub])
    refine awP (op_len_ro (n := (encB (evV (l.take 2000) 0).1).length) rfl rfl Tryd.underlying43 (.inr (.inl ⟨_, rfl, by simp⟩))) ?_; (try simp only [nA, Nat.reduceBEq, Nat.reduceEqDiff, ↓reduceIte, Nat.reduceAdd, Nat.reduceSub])
    refine awP (op_move rfl rfl) ?_; (try simp only [nA, Nat.reduceBEq, Nat.reduceEqDiff, ↓reduceIte, Nat.reduceAdd, Nat.reduceSub])
    refine awP (op_len_ro (n := (encB (evV (l.take 2000) 0).1).length) rfl rfl Tryd.underlying43 (.inr (.inl ⟨_, rfl, by simp⟩))) ?_; (try simp only [nA, Nat.reduceBEq, Nat.reduceEqDiff, ↓reduceIte, Nat.reduceAdd, Nat.reduceSub])
    refine awP (op_slice3_full (n := (encB (evV (l.take 2000) 0).1).length) rfl rfl rfl rfl (by rw [List.length_map]) Tryd.underlying43 sz5) ?_; (try simp only [nA, Nat.reduceBEq, Nat.reduceEqDiff, ↓reduceIte, Nat.reduceAdd, Nat.reduceSub])
    refine awP (op_move rfl rfl) ?_; (try simp only [nA, Nat.reduceBEq, Nat.reduceEqDiff, ↓reduceIte, Nat.reduceAdd, Nat.reduceSub])
    refine awJ (op_app_rof (rows := (more.take (min more.length 50)).map bv) rfl rfl rfl .ro Tryd.underlying43 ze5 (by decide) (bv_len _) (bv_len _) (by rw [List.length_map, List.length_map, List.length_take]; omega) (by decide) (es' := (encB (evV (l.take 2000) 0).1 ++ (more.take (min more.length 50))).map bv) (by simp)) ?_; (try simp only [nA, Nat.reduceBEq, Nat.reduceEqDiff, ↓reduceIte, Nat.reduceAdd, Nat.reduceSub])
    refine awJ (op_call (b := false) rfl en20 (C20 (b := encB (evV (l.take 2000) 0).1 ++ (more.take (min more.length 50))) (by rw [List.length_append, List.length_take]; omega)) (RL.cons (by first | exact View.same rfl | exact View.nil | exact View.rof | exact View.src .ro | exact View.src .rof | exact View.src (.sl rfl rfl) | exact View.ptr rfl rfl rfl) (RL.nil)) rfl (fun h => by cases h) rfl rfl) ?_; (try simp only [nA, Nat.reduceBEq, Nat.reduceEqDiff, ↓reduceIte, Nat.reduceAdd, Nat.reduceSub])
    refine awP (op_move rfl rfl) ?_; (try simp only [nA, Nat.reduceBEq, Nat.reduceEqDiff, ↓reduceIte, Nat.reduceAdd, Nat.reduceSub])
    refine awP (op_extract rfl rfl rfl) ?_; (try simp only [nA, Nat.reduceBEq, Nat.reduceEqDiff, ↓reduceIte, Nat.reduceAdd, Nat.reduceSub])
    refine awP (op_extract rfl rfl rfl) ?_; (try simp only [nA, Nat.reduceBEq, Nat.reduceEqDiff, ↓reduceIte, Nat.reduceAdd, Nat.reduceSub])
    refine awJ (op_alloc rfl ze35 rfl) ?_; (try simp only [nA, Nat.reduceBEq, Nat.reduceEqDiff, ↓reduceIte, Nat.reduceAdd, Nat.reduceSub])
    refine awJ (op_store rfl rfl rfl rfl rfl rfl sz35 rfl (Nat.le_of_ble_eq_true rfl) rfl) ?_; (try simp only [nA, Nat.reduceBEq, Nat.reduceEqDiff, ↓reduceIte, Nat.reduceAdd, Nat.reduceSub])
    refine awP (op_assign rfl rfl) ?_; (try simp only [nA, Nat.reduceBEq, Nat.reduceEqDiff, ↓reduceIte, Nat.reduceAdd, Nat.reduceSub])
    refine AWL.nil ?_
    (refine hK _ ?_; clear hK K; (try simp only [nA, Nat.reduceBEq, Nat.reduceEqDiff, ↓reduceIte, Nat.reduceAdd, Nat.reduceSub]))
    (refine AW.seq_k ?_; intro K hK)
    refine AW.region (AWL.quiet ?_)
    refine aqP (op_move rfl rfl) ?_; (try simp only [nA, Nat.reduceBEq, Nat.reduceEqDiff, ↓reduceIte, Nat.reduceAdd, Nat.reduceSub])
    (first | refine aqP (op_eql rfl rfl rfl) ?_ | refine aqP (op_seql rfl rfl rfl) ?_); (try simp only [nA, Nat.reduceBEq, Nat.reduceEqDiff, ↓reduceIte, Nat.reduceAdd, Nat.reduceSub])
    refine aqP (op_move rfl rfl) ?_; (try simp only [nA, Nat.reduceBEq, Nat.reduceEqDiff, ↓reduceIte, Nat.reduceAdd, Nat.reduceSub])
    refine aqP (op_len_ro (n := (more.take (min more.length 50)).length) rfl rfl Tryd.underlying43 (.inr (.inl ⟨_, rfl, by simp⟩))) ?_; (try simp only [nA, Nat.reduceBEq, Nat.reduceEqDiff, ↓reduceIte, Nat.reduceAdd, Nat.reduceSub])
    (first | refine aqP (op_eql rfl rfl rfl) ?_ | refine aqP (op_seql rfl rfl rfl) ?_); (try simp only [nA, Nat.reduceBEq, Nat.reduceEqDiff, ↓reduceIte, Nat.reduceAdd, Nat.reduceSub])
    refine aqP (op_beqT rfl rfl rfl Tryd.underlying4 hfin) ?_; (try simp only [nA, Nat.reduceBEq, Nat.reduceEqDiff, ↓reduceIte, Nat.reduceAdd, Nat.reduceSub])
    refine aqP (op_move rfl rfl) ?_; (try simp only [nA, Nat.reduceBEq, Nat.reduceEqDiff, ↓reduceIte, Nat.reduceAdd, Nat.reduceSub])
    refine' aqAnd' [_] [67] rfl rfl rfl rfl rfl rfl rfl rfl rfl rfl rfl rfl (fun hb => ?_) ?_; rotate_left
    ·
     (try simp only [hcS] at hb)
     refine aqQ (op_callQ (b := true) rfl en19 (C19) (RL.nil) rfl) ?_; (try simp only [nA, Nat.reduceBEq, Nat.reduceEqDiff, ↓reduceIte, Nat.reduceAdd, Nat.reduceSub])
     (refine aqSeg rfl rfl rfl ?_; repeat (first | exact fun _ _ => rfl | refine upd_out rfl ?_ | refine era_out rfl ?_))
    (try simp only [nA, Nat.reduceBEq, Nat.reduceEqDiff, ↓reduceIte, Nat.reduceAdd, Nat.reduceSub])
    refine aqP (op_assign rfl rfl) ?_; (try simp only [nA, Nat.reduceBEq, Nat.reduceEqDiff, ↓reduceIte, Nat.reduceAdd, Nat.reduceSub])
    refine AQ.nil ?_
    (refine hK _ ?_; clear hK K; (try simp only [nA, Nat.reduceBEq, Nat.reduceEqDiff, ↓reduceIte, Nat.reduceAdd, Nat.reduceSub]))
    skip
    refine AW.ret ?_; (try simp only [thenE, inBlk, Nat.reduceEqDiff, ↓reduceIte]); exact RQ.of0 rfl (.tmp (Nat.le_of_ble_eq_true rfl) rfl rfl .nil)
end Go.Proofs.YtfmnaigedgmhoaaDoor
namespace Go.Proofs.YtfmnaigedgmhoaaDoor
open Go.RowKit Go.ChangeShapes Go.WideShapes
theorem gName : Tryd.prog.globalNamed "baggage/event.fields" = some 0 := by kernel_rfl
theorem gType : (Tryd.prog.globals[0]?).map (·.type) = some 79 := by kernel_rfl
def laidL : List (String × DataW Unit) := [("baggage/event.fields", Rows.laid_baggage_event_fields)]
theorem door_met (os : Os) (args : Array Value) : laidMetH Tryd.prog laidL ((World.doorLaid Tryd.prog 27 os).forCall (fun _ _ => 0) ⟨#[], args, []⟩).memory :=
  laidMetH_of_parts3 (fuel := 8) (laidMet_of_run' 8 (by kernel_rfl) (by kernel_rfl)) (by kernel_rfl) (by kernel_rfl)
def rowD (l : List Int) : DataW Unit := match l with
  | [] => .nil
  | _ => .slice (l.map fun n => .lit (.int .i64 n)) []
theorem rowD_cons {l : List Int} {xs ys : List (DataW Unit)} (h : rowD l = .slice xs ys) : xs = l.map fun n => .lit (.int .i64 n) := by
  cases l with
  | nil => simp [rowD] at h
  | cons a l => simp only [rowD, DataW.slice.injEq] at h; exact h.1.symm
theorem laid_rows : Rows.laid_baggage_event_fields = .agg (gRows.map rowD) := by rfl
theorem lits_inj : ∀ {a b : List Int}, (a.map fun n => (DataW.lit (.int .i64 n) : DataW Unit)) = b.map (fun n => DataW.lit (.int .i64 n)) → a = b
  | [], [], _ => rfl
  | [], _ :: _, h => by simp at h
  | _ :: _, [], h => by simp at h
  | a :: r, b :: s, h => by
    simp only [List.map_cons, List.cons.injEq, DataW.lit.injEq, Lit.int.injEq, true_and] at h
    rw [h.1, lits_inj h.2]
theorem rows_flat : ∀ l : List Int, (l.map fun n => [AV.v (.int .i64 n)]).flatten = l.map fun n => AV.v (.int .i64 n)
  | [] => rfl
  | a :: l => by simp only [List.map_cons, List.flatten_cons, rows_flat l, List.singleton_append]
theorem row_rep {enc : TypeId × Value → Unit} {w : World} {spare : Nat → Bool} {held : Bool} {fuel : Nat} {cs : List Value} {l : List Int} {ps : List MemPlace}
    (h : DataW.trod enc Tryd.prog w 0 spare held fuel 78 cs = some (rowD l, ps)) : ∃ u, cs = [u] ∧ Rep Tryd.prog (fun k => k < w.heap.size) w [] u (.ro (l.map fun n => [.v (.int .i64 n)])) := by
  rcases open_ints Tryd.underlying78 Tryd.underlying80 (by kernel_rfl) h with ⟨rfl, hx⟩ | ⟨a, len, cap, zs, rfl, _, hl, hm, hlen, hx, hc, _⟩
  · have hx := congrArg Prod.fst hx
    cases l with
    | nil => exact ⟨_, rfl, rep_ro_nil⟩
    | cons a l => simp [rowD] at hx
  · have hx := congrArg Prod.fst hx
    have e := lits_inj (rowD_cons hx)
    subst e
    have hz : len ≤ zs.length := by rw [hlen]; split <;> omega
    refine ⟨_, rfl, ?_⟩
    have hlen' : ((zs.take len).map fun n => [AV.v (.int .i64 n)]).length = len := by rw [List.length_map, List.length_take]; omega
    have hrep : Rep Tryd.prog (fun k => k < w.heap.size) w [] (.slice (some a) ((zs.take len).map fun n => [AV.v (.int .i64 n)]).length cap) (.ro ((zs.take len).map fun n => [AV.v (.int .i64 n)])) := by
      refine Rep.ro (sz := 1) (us := (zs.take len).map fun n => .int .i64 n) (by rw [hlen']; exact hl) hm (fun e he => ?_) (fun hn => ?_) (by rw [rows_flat, List.length_map, List.length_map]) fun i u x hu hx' => ?_
      · obtain ⟨n, _, rfl⟩ := List.mem_map.1 he; rfl
      · have hget : ∀ j u, ((zs.take len).map fun n => Value.int .i64 n)[j]? = some u → w.cell? (a.add j) = some u := fun j u hu => by
          rw [List.getElem?_map] at hu
          obtain ⟨n, h1, rfl⟩ := Option.map_eq_some_iff.1 hu
          have hj := (List.getElem?_eq_some_iff.1 h1).1
          rw [List.length_take] at hj
          have := hc j (by omega)
          rw [List.getElem?_take_of_lt (by omega)] at h1
          rw [this, List.getD_eq_getElem?_getD, h1]; rfl
        have h0 := hget 0 _ (List.getElem?_eq_getElem hn)
        obtain ⟨g, o, sp⟩ := a
        have : sp = none := by simpa [Addr.add] using World.cell?_spot h0
        subst this
        refine ⟨g, o, rfl, World.block_lt_of_cell? w _ h0, fun j u hu => ?_⟩
        have := hget j u hu
        rw [add_off] at this
        exact this
      · rw [rows_flat, List.getElem?_map] at hx'
        rw [List.getElem?_map] at hu
        obtain ⟨n, h1, rfl⟩ := Option.map_eq_some_iff.1 hu
        rw [h1] at hx'
        simp only [Option.map_some, Option.some.injEq] at hx'
        subst hx'
        exact Rep.v rfl
    rw [hlen'] at hrep
    exact hrep
theorem glb_of_laid {W : World} (h : laidMetH Tryd.prog laidL W) : Glb Tryd.prog (fun k => k < W.heap.size) W := by
  rw [MakeChecks.laidMetH_plain _ _ _ (by kernel_rfl)] at h
  obtain ⟨ps, ⟨g0, t0, cs0, f0, p0, q0, hg0, ht0, hv0, hd0, _, _⟩, _, _⟩ := h
  obtain rfl := Option.some.inj (gName.symm.trans hg0)
  obtain rfl := Option.some.inj (gType.symm.trans ht0)
  rw [laid_rows] at hd0
  obtain ⟨xs, m1, rfl, hx1, hlen, hn3, hel⟩ := DataW.trod_array Tryd.underlying79 hd0
  have c78 : Tryd.prog.cellsOf 78 = 1 := by kernel_rfl
  have hxs : gRows.map rowD = xs.map (·.1) := by
    have := congrArg Prod.fst hx1
    simpa using this
  intro m l hm
  have hml : m < 15 := (List.getElem?_eq_some_iff.1 hm).1
  have h1 := hel m hml
  have hr : (gRows.map rowD)[m]? = some (rowD l) := by rw [List.getElem?_map, hm]; rfl
  rw [hxs, List.getElem?_map] at hr
  obtain ⟨⟨D, P⟩, h2, h3⟩ := Option.map_eq_some_iff.1 hr
  simp only at h3
  subst h3
  rw [h2, c78, Nat.mul_one] at h1
  obtain ⟨u, e, hrep⟩ := row_rep h1
  have hu : cs0.toList[m]? = some u := by
    have := congrArg (·[0]?) e
    simpa [List.getElem?_take, List.getElem?_drop] using this
  have hcell : W.cell? ⟨0, m, none⟩ = some u := by
    rw [World.var?_cell hg0 hv0 m, ← Array.getElem?_toList]; exact hu
  refine Rep.rop (us := [u]) (fun _ => ⟨0, m, rfl, World.block_lt_of_cell? W _ hcell, fun j v hj => ?_⟩) rfl fun i v x hv hx => ?_
  · cases j with
    | zero => simp at hj; subst hj; exact hcell
    | succ j => simp at hj
  · cases i with
    | zero => simp at hv hx; subst hv; subst hx; exact hrep
    | succ i => simp at hv
end Go.Proofs.YtfmnaigedgmhoaaDoor
namespace Go.Proofs.YtfmnaigedgmhoaaDoor
open Go.RowKit
set_option linter.unusedSimpArgs false
set_option linter.unusedVariables false
set_option maxRecDepth 100000
abbrev decISh : Sh := .int .i64
theorem decI {x : AV} (h : Mt x decISh) : ∃ n : Int, x = .v (.int .i64 n) := h.i64
abbrev decIntSh : List Sh := [.int .i64]
theorem decInt {xs : List AV} (h : RL Mt xs decIntSh) : ∃ c : Int, xs = iv c := by
  obtain ⟨x0, xs, rfl, h0, h⟩ := h.cons_inv
  obtain rfl := h.nil_inv
  obtain ⟨v0, rfl⟩ := Mt.i64 h0
  exact ⟨v0, rfl⟩
abbrev decIntsSh : Sh := .sl decIntSh
theorem decInts {x : AV} (h : Mt x decIntsSh) : ∃ l : List Int, x = .ro (l.map iv) := by
  obtain ⟨es, rfl⟩ := h.sl_
  obtain ⟨l, rfl⟩ := rows_of fun e he => decInt (h.rows e he)
  exact ⟨l, rfl⟩
theorem Mt.byte {x : AV} (h : Mt x (.int .u8)) : ∃ b : UInt8, x = .v (.int .u8 (b.toNat : Nat)) := by
  cases h with
  | int h =>
    rename_i n
    have hw : (0 : Int) ≤ n ∧ n ≤ 255 := by
      rw [Lit.wf, Bool.and_eq_true, decide_eq_true_eq, decide_eq_true_eq] at h
      exact h
    exact ⟨UInt8.ofNat n.toNat, by congr 2; rw [UInt8.toNat_ofNat']; omega⟩
abbrev decByteSh : List Sh := [.int .u8]
theorem decByte {xs : List AV} (h : RL Mt xs decByteSh) : ∃ c : UInt8, xs = bv c := by
  obtain ⟨x0, xs, rfl, h0, h⟩ := h.cons_inv
  obtain rfl := h.nil_inv
  obtain ⟨v0, rfl⟩ := Mt.byte h0
  exact ⟨v0, rfl⟩
abbrev decBytesSh : Sh := .sl decByteSh
theorem decBytes {x : AV} (h : Mt x decBytesSh) : ∃ l : List UInt8, x = .ro (l.map bv) := by
  obtain ⟨es, rfl⟩ := h.sl_
  obtain ⟨l, rfl⟩ := rows_of fun e he => decByte (h.rows e he)
  exact ⟨l, rfl⟩
abbrev decOpSh : List Sh := [.int .i64, .int .i64, .int .i64, .int .i64, .int .i64, .int .i64, .int .i64, .int .i64, .int .i64, .int .i64]
abbrev decReportSh : List Sh := [.int .i64, .bool, .str]
abbrev decEvSh : List Sh := [.int .i64, .int .i64, .str, .int .i64, .int .i64, .int .i64, .int .i64, .int .i64, .bool, .sl decReportSh, .int .i64, .int .i64, .str, .int .i64, .str, .int .i64, .int .i64, .int .i64, .int .i64, .int .i64, .int .i64, .int .i64, .int .i64, .int .i64, .int .i64, .int .i64, .int .i64, .sl decOpSh, .str, .int .i64, .str, .int .i64]
end Go.Proofs.YtfmnaigedgmhoaaDoor
