import Derived.Test.YtnedeajebhbjbaaRows
import Derived.WalkKit
import Derived.WalkLawsBesides
import Derived.WalkSpells
import Derived.Deep.QuietTactic
import Derived.BigQuiet
import Derived.Lib.Hide
import Derived.Deep.Draws
import Derived.Maps.AppendAt
import Derived.Deep.AppendLies
import Derived.RegionTactic
import Derived.OwnWalk
import Derived.Deep.DeepFit
import Derived.Deep.DeepMust
import Derived.StillTailTactics
import Derived.Deep.RegionLaw
namespace Go.Proofs.Ytnedeajebhbjbaa
open Go.RowKit

structure Kept (S : Nat → Prop) (w w' : World) : Prop where
  os : w'.os = w.os
  tape : w'.tape = w.tape
  output : w'.output = w.output
  size : w.heap.size ≤ w'.heap.size
  block : ∀ k, k < w.heap.size → S k → w'.heap[k]? = w.heap[k]?

theorem Kept.refl (S : Nat → Prop) (w : World) : Kept S w w := ⟨rfl, rfl, rfl, Nat.le_refl _, fun _ _ _ => rfl⟩
theorem Kept.trans {S : Nat → Prop} {a b c : World} (h : Kept S a b) (k : Kept S b c) : Kept S a c :=
  ⟨k.os.trans h.os, k.tape.trans h.tape, k.output.trans h.output, Nat.le_trans h.size k.size, fun i hi hs => (k.block i (Nat.lt_of_lt_of_le hi h.size) hs).trans (h.block i hi hs)⟩
theorem Kept.mono {S S' : Nat → Prop} {a b : World} (h : Kept S a b) (hs : ∀ k, k < a.heap.size → S' k → S k) : Kept S' a b :=
  ⟨h.os, h.tape, h.output, h.size, fun i hi hk => h.block i hi (hs i hi hk)⟩
theorem Kept.drew {S : Nat → Prop} {a w : World} (h : Kept S a w) : Kept S a w.drew := ⟨h.os, h.tape, h.output, h.size, h.block⟩
theorem Kept.drewN {S : Nat → Prop} {a w : World} (h : Kept S a w) (n : Nat) : Kept S a (w.drewN n) := ⟨h.os, h.tape, h.output, h.size, h.block⟩
theorem Kept.of_drewN {S : Nat → Prop} {a w : World} {n : Nat} (h : Kept S (a.drewN n) w) : Kept S a w := ⟨h.os, h.tape, h.output, h.size, h.block⟩
theorem Kept.of_drew {S : Nat → Prop} {a w : World} (h : Kept S a.drew w) : Kept S a w := ⟨h.os, h.tape, h.output, h.size, h.block⟩
theorem Kept.alloc {S : Nat → Prop} {a w : World} (h : Kept S a w) (o : Obj) : Kept S a (w.alloc o) :=
  h.trans ⟨rfl, rfl, rfl, by simp, fun k hk _ => Below.heap_alloc _ _ _ hk⟩
theorem Kept.setCell {S : Nat → Prop} {a w : World} (h : Kept S a w) {p : Addr} (hp : ¬ S p.block ∨ a.heap.size ≤ p.block) (u : Value) : Kept S a (w.setCell p u) :=
  ⟨h.os, h.tape, h.output, by have := h.size; simpa [World.setCell] using this, fun k hk hs => (Below.heap_setCell _ _ _ _ (by
    rintro rfl
    rcases hp with hp | hp
    · exact hp hs
    · omega)).trans (h.block k hk hs)⟩
theorem Kept.grown {S : Nat → Prop} {a w w' : World} (h : Kept S a w) {row : Option Nat} (hg : w.grownBy w' row) (hr : ∀ k, row = some k → ¬ S k ∨ a.heap.size ≤ k) : Kept S a w' :=
  ⟨hg.os.trans h.os, hg.tape.trans h.tape, hg.output.trans h.output, Nat.le_trans h.size hg.size, fun k hk hs => (hg.block k (Nat.lt_of_lt_of_le hk h.size) (by
    rintro rfl
    rcases hr k rfl with hp | hp
    · exact hp hs
    · omega)).trans (h.block k hk hs)⟩
theorem Kept.below {w w' : World} (h : Kept (fun _ => True) w w') : Below w.heap.size w w' := ⟨h.os, h.tape, h.output, h.size, fun k hk => h.block k hk trivial⟩
theorem Kept.cell {S : Nat → Prop} {w w' : World} (h : Kept S w w') {p : Addr} {v : Value} (hp : w.cell? p = some v) (hs : S p.block) : w'.cell? p = some v :=
  (World.cell?_of_block (h.block p.block (World.block_lt_of_cell? w p hp) hs)).trans hp

def Blk (w : World) (g : Nat) (t : TypeId) (cs : Array Value) : Prop := w.heap[g]? = some (.cells cs t (0, 0))
section
variable {w w' : World} {g : Nat} {t : TypeId} {cs : Array Value}
theorem Blk.lt (h : Blk w g t cs) : g < w.heap.size := by
  rcases Nat.lt_or_ge g w.heap.size with hlt | hge
  · exact hlt
  · unfold Blk at h; rw [Array.getElem?_eq_none hge] at h; cases h
theorem Blk.cell (h : Blk w g t cs) (i : Nat) : w.cell? ⟨g, i, none⟩ = cs[i]? := cell_of_row w g i cs t (0, 0) h
theorem Blk.frozen (h : Blk w g t cs) (i : Nat) : w.frozen? ⟨g, i, none⟩ = false := by
  unfold Blk at h
  simp [World.frozen?, h]
theorem Blk.new (w : World) (t : TypeId) (cs : Array Value) : Blk (w.alloc (.cells cs t)) w.heap.size t cs := heap_alloc_new w _
theorem Blk.kept {S : Nat → Prop} (h : Blk w g t cs) (hk : Kept S w w') (hs : S g) : Blk w' g t cs := (hk.block g h.lt hs).trans h
theorem Blk.set_ (h : Blk w g t cs) (i : Nat) (u : Value) : Blk (w.setCell ⟨g, i, none⟩ u) g t (cs.setIfInBounds i u) := by
  unfold Blk at h ⊢
  simp [World.setCell, Array.getElem?_modify, h]
end

theorem block_of_add (a : Addr) (n : Nat) : (a.add n).block = a.block := by unfold Addr.add; split <;> rfl
theorem add_of_add (a : Addr) (i j : Nat) : (a.add i).add j = a.add (i + j) := by
  unfold Addr.add
  by_cases hi : i = 0 <;> by_cases hj : j = 0 <;> simp [hi, hj, Nat.add_assoc]

/-- The slice's address leads to the cells xs, all in one block of which S holds. -/
def Rd (S : Nat → Prop) (w : World) (A : Option Addr) (xs : List Value) : Prop :=
  0 < xs.length → ∃ g o, A = some ⟨g, o, none⟩ ∧ S g ∧ ∀ j u, xs[j]? = some u → w.cell? ⟨g, o + j, none⟩ = some u
section
variable {w w' : World} {S S' : Nat → Prop} {A : Option Addr} {xs : List Value}
theorem Rd.nil : Rd S w A [] := fun h => absurd h (by simp)
theorem Rd.at_ {k : Nat} (h : Rd S w A xs) (hk : k < xs.length) : ∃ g o, A = some ⟨g, o, none⟩ ∧ S g ∧ w.cell? ⟨g, o + k, none⟩ = some xs[k] := by
  obtain ⟨g, o, e, hb, hc⟩ := h (by omega)
  exact ⟨g, o, e, hb, hc k _ (List.getElem?_eq_getElem hk)⟩
theorem Rd.kept (h : Rd S w A xs) (hk : Kept S w w') : Rd S w' A xs := fun hn => by
  obtain ⟨g, o, e, hb, hc⟩ := h hn
  exact ⟨g, o, e, hb, fun j u hu => hk.cell (hc j u hu) hb⟩
theorem Rd.mono (h : Rd S w A xs) (hs : ∀ k, k < w.heap.size → S k → S' k) : Rd S' w A xs := fun hn => by
  obtain ⟨g, o, e, hb, hc⟩ := h hn
  have h0 := hc 0 xs[0] (List.getElem?_eq_getElem hn)
  exact ⟨g, o, e, hs _ (World.block_lt_of_cell? w _ h0) hb, hc⟩
theorem Rd.of_add {ad : Addr} (hs : S ad.block) (hc : ∀ j u, xs[j]? = some u → w.cell? (ad.add j) = some u) : Rd S w (some ad) xs := fun hn => by
  obtain ⟨g, o, sp⟩ := ad
  have h0 := hc 0 xs[0] (List.getElem?_eq_getElem hn)
  have : sp = none := by simpa [Addr.add] using World.cell?_spot h0
  subst this
  exact ⟨g, o, rfl, hs, fun j u hu => by simpa [Addr.add_lit] using hc j u hu⟩
end

theorem Rd.bump {S : Nat → Prop} {w : World} {A : Option Addr} {xs : List Value} (h : Rd S w A xs) : Rd (fun k => S k ∧ k < w.heap.size) w A xs := fun hn => by
  obtain ⟨g, o, e, hb, hc⟩ := h hn
  exact ⟨g, o, e, ⟨hb, World.block_lt_of_cell? w _ (hc 0 xs[0] (List.getElem?_eq_getElem hn))⟩, hc⟩

/-- How a piece of data lies in cells. -/
abbrev Rel (α : Type) := (Nat → Prop) → World → List Value → α → Prop

/-- What every such reading keeps. -/
structure Good {α : Type} (R : Rel α) (sz : Nat) : Prop where
  len : ∀ {S w cs x}, R S w cs x → cs.length = sz
  one : ∀ {S w cs x}, R S w cs x → ∀ u ∈ cs, u.oneCell' = true
  kept : ∀ {S w w' cs x}, R S w cs x → Kept S w w' → R S w' cs x
  mono : ∀ {S S' w cs x}, R S w cs x → (∀ k, k < w.heap.size → S k → S' k) → R S' w cs x
  bump : ∀ {S w cs x}, R S w cs x → R (fun k => S k ∧ k < w.heap.size) w cs x

def flat {α : Type} (enc : α → List Value) : Rel α := fun _ _ cs x => cs = enc x
theorem flat_good {α : Type} {enc : α → List Value} {sz : Nat} (h : ∀ x, (enc x).length = sz) (h1 : ∀ x, ∀ u ∈ enc x, u.oneCell' = true) : Good (flat enc) sz :=
  ⟨fun h' => h' ▸ h _, fun h' => h' ▸ h1 _, fun h' _ => h', fun h' _ => h', fun h' => h'⟩

/-- A list of data, laid one behind the other. -/
def Enc {α : Type} (R : Rel α) (sz : Nat) (S : Nat → Prop) (w : World) (news : List Value) (xs : List α) : Prop :=
  news.length = xs.length * sz ∧ ∀ i x, xs[i]? = some x → R S w ((news.drop (i * sz)).take sz) x

section
variable {α : Type} {R : Rel α} {sz : Nat} {S S' : Nat → Prop} {w w' : World} {news news' : List Value} {xs ys : List α} {A : Option Addr}

theorem Enc.nil : Enc R sz S w [] [] := ⟨by simp, fun i x h => by simp at h⟩
theorem Enc.kept (hR : Good R sz) (h : Enc R sz S w news xs) (hk : Kept S w w') : Enc R sz S w' news xs := ⟨h.1, fun i x hx => hR.kept (h.2 i x hx) hk⟩
theorem Enc.mono (hR : Good R sz) (h : Enc R sz S w news xs) (hs : ∀ k, k < w.heap.size → S k → S' k) : Enc R sz S' w news xs := ⟨h.1, fun i x hx => hR.mono (h.2 i x hx) hs⟩
theorem Enc.bump (hR : Good R sz) (h : Enc R sz S w news xs) : Enc R sz (fun k => S k ∧ k < w.heap.size) w news xs := ⟨h.1, fun i x hx => hR.bump (h.2 i x hx)⟩
theorem Enc.append (h : Enc R sz S w news xs) (h' : Enc R sz S w news' ys) : Enc R sz S w (news ++ news') (xs ++ ys) := by
  refine ⟨by rw [List.length_append, List.length_append, h.1, h'.1, Nat.add_mul], fun i x hx => ?_⟩
  by_cases hi : i < xs.length
  · rw [List.getElem?_append_left hi] at hx
    have := h.2 i x hx
    have hle : i * sz + sz ≤ xs.length * sz := by rw [← Nat.succ_mul]; exact Nat.mul_le_mul_right _ hi
    rw [List.drop_append_of_le_length (by rw [h.1]; omega), List.take_append_of_le_length (by rw [List.length_drop, h.1]; omega)]
    exact this
  · rw [List.getElem?_append_right (by omega)] at hx
    have := h'.2 _ x hx
    have e : i * sz = news.length + (i - xs.length) * sz := by rw [h.1, Nat.sub_mul]; have := Nat.mul_le_mul_right sz (Nat.le_of_not_lt hi); omega
    rw [e, List.drop_append, List.drop_eq_nil_of_le (by omega), List.nil_append, Nat.add_sub_cancel_left]
    exact this
theorem Enc.single {cs : List Value} {x : α} (hR : Good R sz) (h : R S w cs x) : Enc R sz S w cs [x] :=
  ⟨by simp [hR.len h], fun i y hy => by
    cases i with
    | zero => simp at hy; subst hy; rw [Nat.zero_mul, List.drop_zero, List.take_of_length_le (Nat.le_of_eq (hR.len h))]; exact h
    | succ i => simp at hy⟩
theorem Enc.drop (h : Enc R sz S w news xs) (k : Nat) : Enc R sz S w (news.drop (k * sz)) (xs.drop k) := by
  refine ⟨by rw [List.length_drop, List.length_drop, h.1, Nat.sub_mul], fun i x hx => ?_⟩
  rw [List.getElem?_drop] at hx
  have := h.2 _ x hx
  rw [List.drop_drop, ← Nat.add_mul]
  exact this
theorem Enc.take (h : Enc R sz S w news xs) (k : Nat) : Enc R sz S w (news.take (k * sz)) (xs.take k) := by
  refine ⟨?_, fun i x hx => ?_⟩
  · rw [List.length_take, List.length_take, h.1]
    by_cases hk : k ≤ xs.length
    · rw [Nat.min_eq_left hk, Nat.min_eq_left (Nat.mul_le_mul_right _ hk)]
    · rw [Nat.min_eq_right (Nat.mul_le_mul_right sz (Nat.le_of_not_le hk)), Nat.min_eq_right (Nat.le_of_not_le hk)]
  · have hi : i < k := by
      have := (List.getElem?_eq_some_iff.1 hx).1
      rw [List.length_take] at this
      omega
    rw [List.getElem?_take_of_lt hi] at hx
    have := h.2 _ x hx
    have hle : i * sz + sz ≤ k * sz := by rw [← Nat.succ_mul]; exact Nat.mul_le_mul_right _ hi
    rw [List.drop_take, List.take_take, Nat.min_eq_left (by omega)]
    exact this
theorem Enc.one (hR : Good R sz) (h : Enc R sz S w news xs) : ∀ u ∈ news, u.oneCell' = true := by
  intro u hu
  obtain ⟨j, hj, rfl⟩ := List.getElem_of_mem hu
  have hl := h.1
  rcases Nat.eq_zero_or_pos sz with hz | hz
  · subst hz; simp at hl; subst hl; simp at hj
  have hq : j / sz < xs.length := by rw [Nat.div_lt_iff_lt_mul hz]; omega
  have := h.2 (j / sz) _ (List.getElem?_eq_getElem hq)
  refine hR.one this _ ?_
  have hmod := Nat.mod_lt j hz
  have hdm : j / sz * sz + j % sz = j := Nat.div_add_mod' j sz
  have e : ((news.drop (j / sz * sz)).take sz)[j % sz]? = some news[j] := by
    rw [List.getElem?_take_of_lt hmod, List.getElem?_drop, hdm]
    exact List.getElem?_eq_getElem hj
  exact List.mem_of_getElem? e
theorem Enc.set (hR : Good R sz) {i : Nat} {x : α} {cs : List Value} (h : Enc R sz S w news xs) (hx : R S w cs x) (hi : i < xs.length) : Enc R sz S w (news.take (i * sz) ++ cs ++ news.drop ((i + 1) * sz)) (xs.set i x) := by
  have h1 : (xs.take i ++ [x] ++ xs.drop (i + 1)) = xs.set i x := by
    rw [List.set_eq_take_append_cons_drop, if_pos hi]; simp
  rw [← h1]
  exact ((h.take i).append (Enc.single hR hx)).append (h.drop (i + 1))

/-- The slice at A reads as the list xs. -/
def RdL (R : Rel α) (sz : Nat) (S : Nat → Prop) (w : World) (A : Option Addr) (xs : List α) : Prop := ∃ news, Enc R sz S w news xs ∧ Rd S w A news

theorem RdL.nil : RdL R sz S w A [] := ⟨[], Enc.nil, Rd.nil⟩
theorem RdL.kept (hR : Good R sz) (h : RdL R sz S w A xs) (hk : Kept S w w') : RdL R sz S w' A xs := let ⟨n, e, r⟩ := h; ⟨n, e.kept hR hk, r.kept hk⟩
theorem RdL.mono (hR : Good R sz) (h : RdL R sz S w A xs) (hs : ∀ k, k < w.heap.size → S k → S' k) : RdL R sz S' w A xs := let ⟨n, e, r⟩ := h; ⟨n, e.mono hR hs, r.mono hs⟩
theorem RdL.bump (hR : Good R sz) (h : RdL R sz S w A xs) : RdL R sz (fun k => S k ∧ k < w.heap.size) w A xs := let ⟨n, e, r⟩ := h; ⟨n, e.bump hR, r.bump⟩
theorem RdL.at_ (h : RdL R sz S w A xs) {k : Nat} (hk : k < xs.length) (hR : Good R sz) (hz : 0 < sz) :
    ∃ g o cs, A = some ⟨g, o, none⟩ ∧ S g ∧ (∀ j u, cs[j]? = some u → w.cell? ⟨g, o + (k * sz + j), none⟩ = some u) ∧ R S w cs xs[k] ∧ cs.length = sz := by
  obtain ⟨news, he, hr⟩ := h
  have hR0 := he.2 k _ (List.getElem?_eq_getElem hk)
  have hl := hR.len hR0
  have hpos : 0 < news.length := by rw [he.1]; exact Nat.mul_pos (by omega) hz
  obtain ⟨g, o, rfl, hs, hc⟩ := hr hpos
  refine ⟨g, o, _, rfl, hs, fun j u hu => hc _ u ?_, hR0, hl⟩
  have hj : j < sz := by
    have := (List.getElem?_eq_some_iff.1 hu).1
    rw [List.length_take] at this
    omega
  rw [List.getElem?_take_of_lt hj, List.getElem?_drop] at hu
  exact hu
theorem RdL.at1 (h : RdL R 1 S w A xs) {k : Nat} (hk : k < xs.length) (hR : Good R 1) :
    ∃ g o u, A = some ⟨g, o, none⟩ ∧ S g ∧ w.cell? ⟨g, o + k, none⟩ = some u ∧ R S w [u] xs[k] := by
  obtain ⟨g, o, cs, hA, hs, hc, hr, hl⟩ := h.at_ hk hR (by omega)
  match cs, hl with
  | [u], _ => exact ⟨g, o, u, hA, hs, by simpa using hc 0 u rfl, hr⟩
theorem RdL.of_map {f : α → Value} (h : Rd S w A (xs.map f)) : RdL (flat fun x => [f x]) 1 S w A xs :=
  ⟨_, ⟨by simp, fun i x hx => by
    show _ = [f x]
    rw [Nat.mul_one, List.drop_eq_getElem_cons (by simp; exact (List.getElem?_eq_some_iff.1 hx).1)]
    simp [(List.getElem?_eq_some_iff.1 hx).2]⟩, h⟩
theorem Enc.to_map {f : α → Value} (h : Enc (flat fun x => [f x]) 1 S w news xs) : news = xs.map f := by
  refine List.ext_getElem? fun i => ?_
  by_cases hi : i < xs.length
  · have h1 := h.2 i _ (List.getElem?_eq_getElem hi)
    have hl := h.1
    have h2 : (news.drop (i * 1)).take 1 = [f xs[i]] := h1
    rw [Nat.mul_one, List.drop_eq_getElem_cons (by omega)] at h2
    have h3 : news[i] = f xs[i] := by rw [List.take_succ_cons] at h2; injection h2
    rw [List.getElem?_eq_getElem (by omega), h3]
    simp [hi]
  · have hl := h.1
    rw [List.getElem?_eq_none (by omega), List.getElem?_eq_none (by simp; omega)]
theorem RdL.to_map {f : α → Value} (h : RdL (flat fun x => [f x]) 1 S w A xs) : Rd S w A (xs.map f) := by
  obtain ⟨n, e, r⟩ := h
  rw [← e.to_map]; exact r
end
theorem one_good {α : Type} {f : α → Value} (h : ∀ x, (f x).oneCell' = true) : Good (flat fun x : α => [f x]) 1 :=
  flat_good (fun _ => rfl) fun x u hu => by simp at hu; subst hu; exact h x

/-- A slice of data in one cell. -/
def RSl {α : Type} (R : Rel α) (sz : Nat) : Rel (List α) := fun S w cs xs => ∃ A c, cs = [.slice A xs.length c] ∧ xs.length ≤ c ∧ c ≤ maxLen ∧ RdL R sz S w A xs
theorem RSl_good {α : Type} {R : Rel α} {sz : Nat} (hR : Good R sz) : Good (RSl R sz) 1 :=
  ⟨fun ⟨_, _, h, _⟩ => by subst h; rfl, fun ⟨_, _, h, _⟩ u hu => by subst h; simp at hu; subst hu; rfl,
    fun ⟨A, c, h, h1, h2, h3⟩ hk => ⟨A, c, h, h1, h2, h3.kept hR hk⟩, fun ⟨A, c, h, h1, h2, h3⟩ hk => ⟨A, c, h, h1, h2, h3.mono hR hk⟩,
    fun ⟨A, c, h, h1, h2, h3⟩ => ⟨A, c, h, h1, h2, h3.bump hR⟩⟩

/-- A slice of the call's own, which may be written and appended to. -/
def Own {α : Type} (R : Rel α) (sz : Nat) (e : TypeId) (base : Nat) (S : Nat → Prop) (w : World) (v : Value) (xs : List α) : Prop :=
  ∃ news, w.ownsRow base e sz v xs.length news ∧ Enc R sz (fun k => S k ∧ some k ≠ v.ownBlock) w news xs

section
variable {α : Type} {R : Rel α} {sz base : Nat} {e : TypeId} {S S' : Nat → Prop} {w w' : World} {v : Value} {xs ys : List α}
theorem Own.nil : Own R sz e base S w (.slice none 0 0) ([] : List α) := ⟨[], World.ownsRow_nil _ _ _ _, Enc.nil⟩
theorem Own.form (h : Own R sz e base S w v xs) : ∃ A c, v = .slice A xs.length c ∧ xs.length ≤ c ∧ c ≤ maxLen := by
  obtain ⟨news, ho, _⟩ := h
  rcases ho.2 with ⟨rfl, hn⟩ | ⟨g, cap, cur, rfl, _, _, h1, h2, _⟩
  · exact ⟨none, 0, by rw [hn], by omega, by unfold maxLen; omega⟩
  · exact ⟨_, cap, rfl, h1, h2⟩
theorem Own.blk (h : Own R sz e base S w v xs) : ∀ k, v.ownBlock = some k → base ≤ k ∧ k < w.heap.size := by
  obtain ⟨news, ho, _⟩ := h
  exact ho.lt
/-- What leaves the own row and the elements alone keeps it. -/
theorem Own.kept (hR : Good R sz) (h : Own R sz e base S w v xs) (hk : Kept S' w w') (h1 : ∀ k, v.ownBlock = some k → S' k) (h2 : ∀ k, k < w.heap.size → S k → some k ≠ v.ownBlock → S' k) : Own R sz e base S w' v xs := by
  obtain ⟨news, ho, he⟩ := h
  refine ⟨news, ⟨ho.1, ?_⟩, ?_⟩
  · rcases ho.2 with hn | ⟨g, cap, cur, rfl, hb, hg, rest⟩
    · exact .inl hn
    · exact .inr ⟨g, cap, cur, rfl, hb, (hk.block g (Array.getElem?_eq_some_iff.1 hg).1 (h1 g rfl)).trans hg, rest⟩
  · have he' := he.bump hR
    have := he'.kept hR (hk.mono (S' := fun k => (S k ∧ some k ≠ v.ownBlock) ∧ k < w.heap.size) fun k hlt hs => h2 k hlt hs.1.1 hs.1.2)
    exact this.mono hR fun k _ hs => hs.1
theorem Own.keptAll (hR : Good R sz) (h : Own R sz e base S w v xs) (hk : Kept (fun _ => True) w w') : Own R sz e base S w' v xs := h.kept hR hk (fun _ _ => trivial) fun _ _ _ _ => trivial
theorem Own.drewN (h : Own R sz e base S w v xs) (hR : Good R sz) (n : Nat) : Own R sz e base S (w.drewN n) v xs := h.keptAll hR ((Kept.refl _ _).drewN n)
theorem Own.alloc (h : Own R sz e base S w v xs) (hR : Good R sz) (o : Obj) : Own R sz e base S (w.alloc o) v xs := h.keptAll hR ((Kept.refl _ _).alloc o)
theorem Own.mono (hR : Good R sz) (h : Own R sz e base S w v xs) (hs : ∀ k, k < w.heap.size → S k → S' k) : Own R sz e base S' w v xs := by
  obtain ⟨news, ho, he⟩ := h
  exact ⟨news, ho, he.mono hR fun k hk h => ⟨hs k hk h.1, h.2⟩⟩
theorem Own.rd (h : Own R sz e base S w v xs) (hR : Good R sz) (hS : ∀ k, base ≤ k → k < w.heap.size → S k) : ∃ A c, v = .slice A xs.length c ∧ xs.length ≤ c ∧ c ≤ maxLen ∧ RdL R sz S w A xs := by
  obtain ⟨A, c, hv, h1, h2⟩ := h.form
  refine ⟨A, c, hv, h1, h2, ?_⟩
  obtain ⟨news, ho, he⟩ := h
  refine ⟨news, he.mono hR fun k _ h => h.1, fun hn => ?_⟩
  rcases ho.2 with ⟨rfl, h0⟩ | ⟨g, cap, cur, rfl, hb, hg, _⟩
  · have := ho.1; rw [h0] at this; simp at this; rw [this] at hn; simp at hn
  · injection hv with hv
    subst hv
    refine ⟨g, 0, rfl, hS g hb (Array.getElem?_eq_some_iff.1 hg).1, fun j u hu => ?_⟩
    have := ho.cells (g := g) rfl j u hu
    simpa [Addr.add_lit] using this
end

/-- A slice type of the table. -/
structure Sty (P : Program) (t e : TypeId) (z : Value) (size bytes : Nat) : Prop where
  und : P.underlying t = some (.slice e)
  info : (P.info? e).map (fun i => (i.zero, i.size, i.bytes)) = some (some z, size, bytes)
  zc : z.cells.size = size
  pos : 0 < size
  bpos : 0 < bytes

theorem run_append_of_nil {P : Program} (w : World) (base : Nat) (t ty e : TypeId) (i : TypeInfo) (size : Nat) (ht : P.underlying t = some (.slice e)) (hi : P.info? e = some i)
    (v : Value) (n : Nat) (xs : List Value) (hown : w.ownsRow base e size v n xs) (c : Nat) : (Builtin.append_ #[t, t] ty #[v, .slice none 0 c]).run P w = .ok v w := by
  rcases hown.2 with ⟨rfl, rfl⟩ | ⟨g, cap, cur, rfl, _, _, hnc, _⟩
  · simp [Builtin.append_, run_underlying ht, sizeOf, typeInfo, hi, Builtin.lenOf, Builtin.firstCells]
  · simp [Builtin.append_, run_underlying ht, sizeOf, typeInfo, hi, Builtin.lenOf, Builtin.firstCells, hnc, storeCells]

theorem Kept.through {α : Type} {R : Rel α} {sz base : Nat} {e : TypeId} {S S' : Nat → Prop} {w0 w w' : World} {v : Value} {xs : List α} (hk : Kept S w0 w) (hg : Kept (fun k => some k ≠ v.ownBlock) w w') (hown : Own R sz e base S' w v xs) (hb : w0.heap.size ≤ base) : Kept S w0 w' :=
  ⟨hg.os.trans hk.os, hg.tape.trans hk.tape, hg.output.trans hk.output, Nat.le_trans hk.size hg.size, fun k hlt hs => (hg.block k (Nat.lt_of_lt_of_le hlt hk.size) (by
    intro he
    have := (hown.blk k he.symm).1
    omega)).trans (hk.block k hlt hs)⟩

/-- append onto a slice of the call's own, whatever slice is appended. -/
theorem run_app {P : Program} {α : Type} {R : Rel α} {size : Nat} (hR : Good R size) {t e : TypeId} {z : Value} {bytes : Nat} (T : Sty P t e z size bytes) (ty : TypeId)
    {base : Nat} {S S' : Nat → Prop} {w : World} {v : Value} {xs ys : List α} (hown : Own R size e base S w v xs) {A : Option Addr} {c : Nat} {news' : List Value} (he' : Enc R size (fun k => S k ∧ some k ≠ v.ownBlock) w news' ys) (hr' : Rd S' w A news')
    (hlen : (xs.length + ys.length) * bytes ≤ 140737488355328) (hbase : base ≤ w.heap.size) :
    ∃ v' w', (Builtin.append_ #[t, t] ty #[v, .slice A ys.length c]).run P w = .ok v' w' ∧ Own R size e base S w' v' (xs ++ ys) ∧ Kept (fun k => some k ≠ v.ownBlock) w w' ∧ (v'.ownBlock = v.ownBlock ∨ v'.ownBlock = some w.heap.size) := by
  have hmax : xs.length + ys.length ≤ maxLen := by
    have := Nat.le_mul_of_pos_right (xs.length + ys.length) T.bpos
    unfold maxLen
    omega
  obtain ⟨i, hi, hz0, hz1, hz2⟩ := info_parts T.info
  obtain ⟨news, ho, he⟩ := hown
  have he1 : Enc R size (fun k => (S k ∧ some k ≠ v.ownBlock) ∧ k < w.heap.size) w (news ++ news') (xs ++ ys) :=
    (he.bump hR).append (he'.bump hR)
  have kept : ∀ w', w.grownBy w' v.ownBlock → Kept (fun k => some k ≠ v.ownBlock) w w' := fun w' h2 => (Kept.refl _ _).grown h2 fun k hk => .inl fun h => h hk.symm
  have key : ∀ v' w', w'.ownsRow base e size v' (xs.length + ys.length) (news ++ news') → w.grownBy w' v.ownBlock → (v'.ownBlock = v.ownBlock ∨ v'.ownBlock = some w.heap.size) → Own R size e base S w' v' (xs ++ ys) := by
    intro v' w' h1 h2 h3
    refine ⟨news ++ news', by rw [List.length_append]; exact h1, ?_⟩
    refine (he1.kept hR ((kept w' h2).mono fun k _ h => h.1.2)).mono hR fun k _ h => ⟨h.1.1, ?_⟩
    rcases h3 with h3 | h3
    · rw [h3]; exact h.1.2
    · rw [h3]; intro he; injection he with he; omega
  rcases A with _ | ad
  · have hm : news' = [] := by
      rcases Nat.eq_zero_or_pos news'.length with h0 | h0
      · exact List.eq_nil_of_length_eq_zero h0
      · obtain ⟨_, _, h, _⟩ := hr' h0
        exact absurd h (by simp)
    have hy : ys = [] := by
      have h1 := he'.1
      rw [hm, List.length_nil] at h1
      have h0 := T.pos
      rcases Nat.mul_eq_zero.1 h1.symm with h | h
      · exact List.eq_nil_of_length_eq_zero h
      · omega
    subst hy; subst hm
    refine ⟨v, w, run_append_of_nil w base t ty e i size T.und hi v _ news ho c, ?_, Kept.refl _ _, .inl rfl⟩
    exact key v w (by simpa using ho) (World.grownBy.refl w _) (.inl rfl)
  · have hcells : ∀ j u, news'[j]? = some u → w.cell? (ad.add j) = some u := by
      intro j u hu
      have hpos : 0 < news'.length := by have := (List.getElem?_eq_some_iff.1 hu).1; omega
      obtain ⟨g, o, h, _, hc⟩ := hr' hpos
      injection h with h
      subst h
      rw [Addr.add_lit]
      exact hc j u hu
    obtain ⟨v', w', hrun, h2, h3, _, h5⟩ := run_append_own_at (P := P) w base t ty e i z size bytes T.und hi hz0 hz1 hz2 T.zc T.pos v xs.length news ho ad ys.length c news' he'.1 hcells (he'.one hR) hmax hlen hbase
    exact ⟨v', w', hrun, key v' w' h2 h3 h5, kept w' h3, h5⟩

section
variable {P : Program} {α : Type} {R : Rel α} {size : Nat} {t e : TypeId} {z : Value} {bytes : Nat} {base : Nat} {S S' : Nat → Prop} {w : World} {v : Value} {xs ys : List α} {A : Option Addr}
theorem run_app1 (hR : Good R size) (T : Sty P t e z size bytes) (ty : TypeId)
    (hown : Own R size e base S w v xs) (hr : RdL R size S' w A ys) (hS : (∀ k, k < w.heap.size → S' k → S k ∧ some k ≠ v.ownBlock) ∨ (∀ S S' cs x, R S w cs x → R S' w cs x))
    {m n c : Nat} (hn : n = ys.length) (hm : m = xs.length + ys.length) (hlen : m * bytes ≤ 140737488355328) (hbase : base ≤ w.heap.size) :
    ∃ A1 c1 w', (Builtin.append_ #[t, t] ty #[v, .slice A n c]).run P w = .ok (.slice A1 m c1) w' ∧ Own R size e base S w' (.slice A1 m c1) (xs ++ ys) ∧ m ≤ c1 ∧ c1 ≤ maxLen ∧ Kept (fun k => some k ≠ v.ownBlock) w w' ∧
      ((Value.slice A1 m c1).ownBlock = v.ownBlock ∨ (Value.slice A1 m c1).ownBlock = some w.heap.size) := by
  subst hm; subst hn
  obtain ⟨news', he', hr'⟩ := hr
  have he2 : Enc R size (fun k => S k ∧ some k ≠ v.ownBlock) w news' ys := by
    rcases hS with hS | hF
    · exact he'.mono hR hS
    · exact ⟨he'.1, fun i x hx => hF _ _ _ _ (he'.2 i x hx)⟩
  obtain ⟨v', w', h1, h2, h3, h4⟩ := run_app hR T ty hown (c := c) he2 hr' hlen hbase
  obtain ⟨A1, c1, rfl, h5, h6⟩ := h2.form
  rw [List.length_append] at h1 h2 h4 h5
  exact ⟨A1, c1, w', h1, h2, h5, h6, h3, h4⟩

theorem wp_app (hR : Good R size) (T : Sty P t e z size bytes)
    (hown : Own R size e base S w v xs) (hr : RdL R size S' w A ys) (hS : (∀ k, k < w.heap.size → S' k → S k ∧ some k ≠ v.ownBlock) ∨ (∀ S S' cs x, R S w cs x → R S' w cs x))
    {o : Oper} {a : Act} {K : Act → World → Prop} {Q : Exit → Act → World → Prop} {s x : Operand} (ho : o.op = .call { callee := .builtin .append, args := #[s, x], argTypes := #[t, t] })
    (hs : a.eval s = v) {m n c : Nat} (hx : a.eval x = .slice A n c) (hn : n = ys.length) (hm : m = xs.length + ys.length) (hlen : m * bytes ≤ 140737488355328) (hbase : base ≤ w.heap.size)
    (h : ∀ A1 c1 w', Own R size e base S w' (.slice A1 m c1) (xs ++ ys) → m ≤ c1 → c1 ≤ maxLen → Kept (fun k => some k ≠ v.ownBlock) w w' →
      ((Value.slice A1 m c1).ownBlock = v.ownBlock ∨ (Value.slice A1 m c1).ownBlock = some w.heap.size) → K (a.put o.dst (.slice A1 m c1)) w') : o.wp P a w K Q := by
  obtain ⟨A1, c1, w', hrun, h2, h3, h4, h5, h6⟩ := run_app1 (P := P) hR T o.type hown (c := c) hr hS hn hm hlen hbase
  unfold Oper.wp execOp
  simp only [ho, resolve, invoke, builtin, Sem.run_bind, Sem.run_pure, Result.andThen_ok, List.map_toArray, List.map_cons, List.map_nil, hs, hx, hrun]
  exact h A1 c1 w' h2 h3 h4 h5 h6

theorem wpList_app (hR : Good R size) (T : Sty P t e z size bytes)
    (hown : Own R size e base S w v xs) (hr : RdL R size S' w A ys) (hS : (∀ k, k < w.heap.size → S' k → S k ∧ some k ≠ v.ownBlock) ∨ (∀ S S' cs x, R S w cs x → R S' w cs x))
    {ops : Array Oper} {rest : List Oper} {o : Oper} {a : Act} {Q : Exit → Act → World → Prop} (hgd : o.guard = none) {s x : Operand} (ho : o.op = .call { callee := .builtin .append, args := #[s, x], argTypes := #[t, t] })
    (hs : a.eval s = v) {m n c : Nat} (hx : a.eval x = .slice A n c) (hn : n = ys.length) (hm : m = xs.length + ys.length) (hlen : m * bytes ≤ 140737488355328) (hbase : base ≤ w.heap.size)
    (h : ∀ A1 c1 w', Own R size e base S w' (.slice A1 m c1) (xs ++ ys) → m ≤ c1 → c1 ≤ maxLen → Kept (fun k => some k ≠ v.ownBlock) w w' →
      ((Value.slice A1 m c1).ownBlock = v.ownBlock ∨ (Value.slice A1 m c1).ownBlock = some w.heap.size) → wpList P ops Q rest (a.put o.dst (.slice A1 m c1)) w') : wpList P ops Q (o :: rest) a w :=
  wpList_plain hgd fun _ hK => wp_app hR T hown hr hS ho hs hx hn hm hlen hbase fun A1 c1 w' h2 h3 h4 h5 h6 => hK _ _ (h A1 c1 w' h2 h3 h4 h5 h6)
end

/-- A list of operations at which the walk stands still. -/
def wpStop (P : Program) (ops : Array Oper) (Q : Exit → Act → World → Prop) (l : List Oper) (a : Act) (w : World) : Prop := wpList P ops Q l a w
theorem wp_stop {P : Program} {ops : Array Oper} {Q : Exit → Act → World → Prop} {l : List Oper} {a : Act} {w : World} (h : wpStop P ops Q l a w) : wpList P ops Q l a w := h

theorem Own.lit {α : Type} {R : Rel α} {sz : Nat} {e : TypeId} {S : Nat → Prop} (w : World) (cs : List Value) (xs : List α)
    (h : Enc R sz (fun k => S k ∧ k < w.heap.size) w cs xs) (hR : Good R sz) (hm : xs.length ≤ maxLen) : Own R sz e w.heap.size S (w.alloc (.cells cs.toArray e)) (.slice (some ⟨w.heap.size, 0, none⟩) xs.length xs.length) xs := by
  have h0 := World.ownsRow_lit (base := w.heap.size) (e := e) (size := sz) w cs.toArray xs.length (Nat.le_refl _) hm (by simpa using h.1)
  refine ⟨cs, by simpa using h0, ?_⟩
  refine (h.kept hR ((Kept.refl _ _).alloc _)).mono hR fun k _ hk => ⟨hk.1, ?_⟩
  intro he
  simp [Value.ownBlock] at he
  omega
theorem Enc.flat1 {α : Type} {f : α → Value} {S : Nat → Prop} {w : World} (xs : List α) : Enc (flat fun x => [f x]) 1 S w (xs.map f) xs :=
  ⟨by simp, fun i x hx => by
    show _ = [f x]
    rw [Nat.mul_one, List.drop_eq_getElem_cons (by simp; exact (List.getElem?_eq_some_iff.1 hx).1)]
    simp [(List.getElem?_eq_some_iff.1 hx).2]⟩
theorem Own.base {α : Type} {R : Rel α} {sz base base' : Nat} {e : TypeId} {S : Nat → Prop} {w : World} {v : Value} {xs : List α} (h : Own R sz e base S w v xs) (hb : base' ≤ base) : Own R sz e base' S w v xs := by
  obtain ⟨news, ho, he⟩ := h
  refine ⟨news, ⟨ho.1, ?_⟩, he⟩
  rcases ho.2 with hn | ⟨g, cap, cur, rfl, hb', r⟩
  · exact .inl hn
  · exact .inr ⟨g, cap, cur, rfl, by omega, r⟩

theorem RdL.part {α : Type} {R : Rel α} {sz : Nat} {S : Nat → Prop} {w : World} {A : Option Addr} {xs : List α} (h : RdL R sz S w A xs) (k m : Nat) (A' : Option Addr)
    (hA : ∀ g o, A = some ⟨g, o, none⟩ → 0 < ((xs.drop k).take m).length → A' = some ⟨g, o + k * sz, none⟩) : RdL R sz S w A' ((xs.drop k).take m) := by
  obtain ⟨news, he, hr⟩ := h
  have he2 := (he.drop k).take m
  refine ⟨_, he2, fun hn => ?_⟩
  have hl := he2.1
  have hpos : 0 < ((xs.drop k).take m).length := by
    rcases Nat.eq_zero_or_pos ((xs.drop k).take m).length with h0 | h0
    · rw [h0, Nat.zero_mul] at hl; omega
    · exact h0
  have hnl : 0 < news.length := by
    simp at hn
    omega
  obtain ⟨g, o, e, hs, hc⟩ := hr hnl
  refine ⟨g, o + k * sz, hA g o e hpos, hs, fun j u hu => ?_⟩
  have hj : (news.drop (k * sz))[j]? = some u := by
    rw [List.getElem?_take] at hu
    split at hu
    · exact hu
    · cases hu
  rw [List.getElem?_drop] at hj
  rw [Nat.add_assoc]
  exact hc _ u hj
theorem RdL.lit {α : Type} {R : Rel α} {sz : Nat} {S : Nat → Prop} {w : World} {cs : List Value} {xs : List α} (h : Enc R sz S w cs xs) (hR : Good R sz) (hS : S w.heap.size) (e : TypeId) :
    RdL R sz S (w.alloc (.cells cs.toArray e)) (some ⟨w.heap.size, 0, none⟩) xs := by
  refine ⟨cs, h.kept hR ((Kept.refl _ _).alloc _), fun _ => ⟨_, _, rfl, hS, fun j u hu => ?_⟩⟩
  rw [Nat.zero_add, (Blk.new w e _).cell]
  simpa using hu

section
variable {P : Program} {α : Type} {R : Rel α} {size : Nat} {t e : TypeId} {z : Value} {bytes : Nat} {S : Nat → Prop} {w : World} {xs : List α} {A : Option Addr}
theorem Sty.elem (T : Sty P t e z size bytes) : P.underlying t = some (.slice (P.elem t)) := by
  have := T.und
  simp [Program.elem, this]
theorem Sty.sz_ (T : Sty P t e z size bytes) (w : World) : (sizeOf (P.elem t)).run P w = .ok size w := by
  obtain ⟨i, hi, _, h1, _⟩ := info_parts T.info
  have : P.elem t = e := by simp [Program.elem, T.und]
  simp [this, sizeOf, typeInfo, hi, h1]
/-- The value of 'x[k:h]' of a slice, whatever its address. -/
theorem cut_rd (hR : Good R size) (hr : RdL R size S w A xs) (k h m n c : Nat) (hk : k ≤ h) (hn : n = h - k) (hl : n = ((xs.drop k).take n).length) (hm : h ≤ m) :
    ∃ A', sliced A k h m size = .slice A' n (m - k) ∧ RdL R size S w A' ((xs.drop k).take n) := by
  refine ⟨if m = k then A else A.map (·.add (k * size)), by rw [sliced, hn], hr.part k n _ fun g o e hpos => ?_⟩
  have : m ≠ k := by omega
  rw [if_neg this, e]
  simp [Addr.add_lit]
theorem wpList_cut (hR : Good R size) (T : Sty P t e z size bytes) (hr : RdL R size S w A xs)
    {ops : Array Oper} {rest : List Oper} {o : Oper} {a : Act} {Q : Exit → Act → World → Prop} (hgd : o.guard = none) {x lo hi : Operand} (ho : o.op = .slice t x (some lo) (some hi) none)
    {n c : Nat} (hx : a.eval x = .slice A n c) {kl kh : IntKind} {l h : Int} (h1 : a.eval lo = .int kl l) (h2 : a.eval hi = .int kh h) (k m : Nat) (hl : l = (k : Int)) (hh : h = ((k + m : Nat) : Int)) (hc : k + m ≤ c) (hm : k + m ≤ xs.length)
    (hK : ∀ A', RdL R size S w A' ((xs.drop k).take m) → wpList P ops Q rest (a.put o.dst (.slice A' m (c - k))) w) : wpList P ops Q (o :: rest) a w := by
  refine wpList_plain hgd fun K hK' => ?_
  obtain ⟨A', e1, e2⟩ := cut_rd hR hr k (k + m) c m c (by omega) (by omega) (by rw [List.length_take, List.length_drop]; omega) hc
  subst hl; subst hh
  have hrun : (Instr.sliceAt t (.slice A n c) (some (.int kl (k : Int))) (some (.int kh ((k + m : Nat) : Int))) none).run P w = .ok (.slice A' m (c - k)) w := by
    rw [run_sliceAt_slice w t _ _ _ _ T.elem, run_slice_lh w t A n c T.elem kl kh _ _ (by omega) (by omega) (by omega), T.sz_ w, Result.andThen_ok, Int.toNat_natCast, Int.toNat_natCast, e1]
  unfold Oper.wp
  simp only [execOp, ho, hx, h1, h2, hrun, Option.map_some, Option.map_none, Sem.run_bind, Result.andThen_ok, Sem.run_pure]
  exact hK' _ _ (hK A' e2)
theorem wpList_cutL (hR : Good R size) (T : Sty P t e z size bytes) (hr : RdL R size S w A xs)
    {ops : Array Oper} {rest : List Oper} {o : Oper} {a : Act} {Q : Exit → Act → World → Prop} (hgd : o.guard = none) {x lo : Operand} (ho : o.op = .slice t x (some lo) none none)
    {n c : Nat} (hx : a.eval x = .slice A n c) {kl : IntKind} {l : Int} (h1 : a.eval lo = .int kl l) (k m : Nat) (hl : l = (k : Int)) (hn : n = k + m) (hc : n ≤ c) (hm : n = xs.length)
    (hK : ∀ A', RdL R size S w A' (xs.drop k) → wpList P ops Q rest (a.put o.dst (.slice A' m (c - k))) w) : wpList P ops Q (o :: rest) a w := by
  refine wpList_plain hgd fun K hK' => ?_
  obtain ⟨A', e1, e2⟩ := cut_rd hR hr k n c m c (by omega) (by omega) (by rw [List.length_take, List.length_drop]; omega) hc
  rw [List.take_of_length_le (by rw [List.length_drop]; omega)] at e2
  subst hl
  have hrun : (Instr.sliceAt t (.slice A n c) (some (.int kl (k : Int))) none none).run P w = .ok (.slice A' m (c - k)) w := by
    rw [run_sliceAt_slice w t _ _ _ _ T.elem, run_slice_l w t A n c T.elem kl _ (by omega) (by omega), T.sz_ w, Result.andThen_ok, Int.toNat_natCast, e1]
  unfold Oper.wp
  simp [execOp, ho, hx, h1, hrun, Result.andThen]
  exact hK' _ _ (hK A' e2)
theorem wpList_cutH (hR : Good R size) (T : Sty P t e z size bytes) (hr : RdL R size S w A xs)
    {ops : Array Oper} {rest : List Oper} {o : Oper} {a : Act} {Q : Exit → Act → World → Prop} (hgd : o.guard = none) {x hi : Operand} (ho : o.op = .slice t x none (some hi) none)
    {n c : Nat} (hx : a.eval x = .slice A n c) {kh : IntKind} {h : Int} (h2 : a.eval hi = .int kh h) (m : Nat) (hh : h = (m : Int)) (hc : m ≤ c) (hm : m ≤ xs.length)
    (hK : ∀ A', RdL R size S w A' (xs.take m) → wpList P ops Q rest (a.put o.dst (.slice A' m c)) w) : wpList P ops Q (o :: rest) a w := by
  refine wpList_plain hgd fun K hK' => ?_
  obtain ⟨A', e1, e2⟩ := cut_rd hR hr 0 m c m c (by omega) (by omega) (by rw [List.length_take, List.length_drop]; omega) hc
  rw [List.drop_zero] at e2
  subst hh
  have hrun : (Instr.sliceAt t (.slice A n c) none (some (.int kh (m : Int))) none).run P w = .ok (.slice A' m c) w := by
    rw [run_sliceAt_slice w t _ _ _ _ T.elem, run_slice_h w t A n c T.elem kh _ (by omega) (by omega), T.sz_ w, Result.andThen_ok, Int.toNat_natCast, e1, Nat.sub_zero]
  unfold Oper.wp
  simp [execOp, ho, hx, h2, hrun, Result.andThen]
  exact hK' _ _ (hK A' e2)
end
theorem wp_at_slice {P : Program} {ops : Array Oper} {Q : Exit → Act → World → Prop} {o : Oper} {rest : List Oper} {a : Act} {w : World} {t : TypeId} {x : Operand} {lo hi mx : Option Operand} (_ : o.op = .slice t x lo hi mx) (h : wpStop P ops Q (o :: rest) a w) : wpList P ops Q (o :: rest) a w := h
theorem step_app {P : Program} {α : Type} {R : Rel α} {size : Nat} {t e : TypeId} {z : Value} {bytes : Nat} {base : Nat} {S S' : Nat → Prop} {w : World} {v : Value} {xs ys : List α} {A : Option Addr}
    (hR : Good R size) (T : Sty P t e z size bytes)
    (hown : Own R size e base S w v xs) (hr : RdL R size S' w A ys) (hS : (∀ k, k < w.heap.size → S' k → S k ∧ some k ≠ v.ownBlock) ∨ (∀ S S' cs x, R S w cs x → R S' w cs x))
    {ops : Array Oper} {o : Oper} {a : Act} {K : Act → World → Prop} {Q : Exit → Act → World → Prop} {E : Prop} (hgd : o.guard = none) {s x : Operand} (ho : o.op = .call { callee := .builtin .append, args := #[s, x], argTypes := #[t, t] })
    (hs : a.eval s = v) {m n c : Nat} (hx : a.eval x = .slice A n c) (hn : n = ys.length) (hm : m = xs.length + ys.length) (hlen : m * bytes ≤ 140737488355328) (hbase : base ≤ w.heap.size)
    (h : ∀ A1 c1 w', Own R size e base S w' (.slice A1 m c1) (xs ++ ys) → m ≤ c1 → c1 ≤ maxLen → Kept (fun k => some k ≠ v.ownBlock) w w' →
      ((Value.slice A1 m c1).ownBlock = v.ownBlock ∨ (Value.slice A1 m c1).ownBlock = some w.heap.size) → K (a.put o.dst (.slice A1 m c1)) w') :
    if Region.wanted o (yielded ops a.tmps) = true then Oper.wp P o a w K Q else E := by
  have hw : Region.wanted o (yielded ops a.tmps) = true := by simp [Region.wanted, hgd]
  rw [if_pos hw]
  exact wp_app hR T hown hr hS ho hs hx hn hm hlen hbase h
end Go.Proofs.Ytnedeajebhbjbaa
