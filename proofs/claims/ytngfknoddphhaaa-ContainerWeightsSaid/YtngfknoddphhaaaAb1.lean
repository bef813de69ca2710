import Derived.WalkKit
import Derived.WalkLawsBesides
import Derived.WalkSpells
import Derived.Deep.QuietTactic
import Derived.BigQuiet
import Derived.Lib.Hide
import Derived.Deep.Draws
import Derived.Maps.AppendAt
import Derived.Deep.AppendLies
import Derived.RegionTactic
import Derived.OwnWalk
import Derived.Deep.DeepFit
import Derived.Deep.DeepMust
import Derived.StillTailTactics
import Derived.Deep.RegionLaw
import Derived.Deep.RegionHeld3
import Derived.ArgAppend
namespace Go.Proofs.Ytngfknoddphhaaa
open Go.RowKit
set_option linter.unusedSimpArgs false
set_option linter.unusedVariables false

structure Kept (S : Nat → Prop) (w w' : World) : Prop where
  os : w'.os = w.os
  tape : w'.tape = w.tape
  output : w'.output = w.output
  size : w.heap.size ≤ w'.heap.size
  block : ∀ k, k < w.heap.size → S k → w'.heap[k]? = w.heap[k]?

theorem Kept.refl (S : Nat → Prop) (w : World) : Kept S w w := ⟨rfl, rfl, rfl, Nat.le_refl _, fun _ _ _ => rfl⟩
theorem Kept.trans {S : Nat → Prop} {a b c : World} (h : Kept S a b) (k : Kept S b c) : Kept S a c :=
  ⟨k.os.trans h.os, k.tape.trans h.tape, k.output.trans h.output, Nat.le_trans h.size k.size, fun i hi hs => (k.block i (Nat.lt_of_lt_of_le hi h.size) hs).trans (h.block i hi hs)⟩
theorem Kept.mono {S S' : Nat → Prop} {a b : World} (h : Kept S a b) (hs : ∀ k, k < a.heap.size → S' k → S k) : Kept S' a b :=
  ⟨h.os, h.tape, h.output, h.size, fun i hi hk => h.block i hi (hs i hi hk)⟩
theorem Kept.drew {S : Nat → Prop} {a w : World} (h : Kept S a w) : Kept S a w.drew := ⟨h.os, h.tape, h.output, h.size, h.block⟩
theorem Kept.alloc {S : Nat → Prop} {a w : World} (h : Kept S a w) (o : Obj) : Kept S a (w.alloc o) :=
  h.trans ⟨rfl, rfl, rfl, by simp, fun k hk _ => Below.heap_alloc _ _ _ hk⟩
theorem Kept.setCell {S : Nat → Prop} {a w : World} (h : Kept S a w) {p : Addr} (hp : ¬ S p.block ∨ a.heap.size ≤ p.block) (u : Value) : Kept S a (w.setCell p u) :=
  ⟨h.os, h.tape, h.output, by have := h.size; simpa [World.setCell] using this, fun k hk hs => (Below.heap_setCell _ _ _ _ (by
    rintro rfl
    rcases hp with hp | hp
    · exact hp hs
    · omega)).trans (h.block k hk hs)⟩
theorem Kept.grown {S : Nat → Prop} {a w w' : World} (h : Kept S a w) {row : Option Nat} (hg : w.grownBy w' row) (hr : ∀ k, row = some k → ¬ S k ∨ a.heap.size ≤ k) : Kept S a w' :=
  ⟨hg.os.trans h.os, hg.tape.trans h.tape, hg.output.trans h.output, Nat.le_trans h.size hg.size, fun k hk hs => (hg.block k (Nat.lt_of_lt_of_le hk h.size) (by
    rintro rfl
    rcases hr k rfl with hp | hp
    · exact hp hs
    · omega)).trans (h.block k hk hs)⟩
theorem Kept.below {w w' : World} (h : Kept (fun _ => True) w w') : Below w.heap.size w w' := ⟨h.os, h.tape, h.output, h.size, fun k hk => h.block k hk trivial⟩
theorem Kept.cell {S : Nat → Prop} {w w' : World} (h : Kept S w w') {p : Addr} {v : Value} (hp : w.cell? p = some v) (hs : S p.block) : w'.cell? p = some v :=
  (World.cell?_of_block (h.block p.block (World.block_lt_of_cell? w p hp) hs)).trans hp
theorem Kept.then {S T : Nat → Prop} {a b c : World} (h : Kept S a b) (k : Kept T b c) (hT : ∀ i, i < a.heap.size → S i → T i) : Kept S a c :=
  ⟨k.os.trans h.os, k.tape.trans h.tape, k.output.trans h.output, Nat.le_trans h.size k.size, fun i hi hs => (k.block i (Nat.lt_of_lt_of_le hi h.size) (hT i hi hs)).trans (h.block i hi hs)⟩

/-- Pieces of data as a walk knows them. -/
inductive AV where
  | any
  | v (x : Value)
  | sln (n : Nat)
  | ro (es : List (List AV))
  | rof (es : List (List AV))
  | rop (cs : List AV)
  | own (e : TypeId) (es : List (List AV))
  | om (b : Nat) (ks : List Value)
  | agg (cs : List AV)
  | tup (cs : List AV)
  | sl (r k off len : Nat)
  | ptr (r k i j : Nat)
  | mp (r k : Nat)
  deriving Inhabited

/-- The cells us lie from the address on, in one block of which S holds. -/
def Rd (S : Nat → Prop) (w : World) (A : Option Addr) (us : List Value) : Prop :=
  0 < us.length → ∃ g o, A = some ⟨g, o, none⟩ ∧ S g ∧ ∀ j u, us[j]? = some u → w.cell? ⟨g, o + j, none⟩ = some u
theorem Rd.kept {S : Nat → Prop} {w w' : World} {A : Option Addr} {us : List Value} (h : Rd S w A us) (hk : Kept S w w') : Rd S w' A us := fun hn => by
  obtain ⟨g, o, e, hb, hc⟩ := h hn
  exact ⟨g, o, e, hb, fun j u hu => hk.cell (hc j u hu) hb⟩
theorem Rd.mono {S S' : Nat → Prop} {w : World} {A : Option Addr} {us : List Value} (h : Rd S w A us) (hs : ∀ k, k < w.heap.size → S k → S' k) : Rd S' w A us := fun hn => by
  obtain ⟨g, o, e, hb, hc⟩ := h hn
  have h0 := hc 0 us[0] (List.getElem?_eq_getElem hn)
  exact ⟨g, o, e, hs _ (World.block_lt_of_cell? w _ h0) hb, hc⟩

def sizeIs (P : Program) (e : TypeId) (sz : Nat) : Prop := (P.info? e).map (·.size) = some sz
theorem sizeIs.inj {P : Program} {e : TypeId} {a b : Nat} (h : sizeIs P e a) (h' : sizeIs P e b) : a = b := by
  unfold sizeIs at h h'; rw [h] at h'; injection h'

/-- How a cell stands for a piece of data; bs: the blocks that it owns. -/
inductive Rep (P : Program) (S : Nat → Prop) (w : World) : List Nat → Value → AV → Prop
  | any {u} (h : u.oneCell' = true) : Rep P S w [] u .any
  | v {u} (h : u.oneCell' = true) : Rep P S w [] u (.v u)
  | sln {A n c} (h1 : n ≤ c) (h2 : c ≤ maxLen) : Rep P S w [] (.slice A n c) (.sln n)
  | ro {A c sz es} {us : List Value} (h1 : es.length ≤ c) (h2 : c ≤ maxLen) (hs : ∀ e ∈ es, e.length = sz) (hr : Rd S w A us)
      (hl : us.length = es.flatten.length) (hc : ∀ (i : Nat) (u : Value) (x : AV), us[i]? = some u → es.flatten[i]? = some x → Rep P S w [] u x) : Rep P S w [] (.slice A es.length c) (.ro es)
  | rof {A sz es} {us : List Value} (h2 : es.length ≤ maxLen) (hs : ∀ e ∈ es, e.length = sz) (hr : Rd S w A us)
      (hl : us.length = es.flatten.length) (hc : ∀ (i : Nat) (u : Value) (x : AV), us[i]? = some u → es.flatten[i]? = some x → Rep P S w [] u x) : Rep P S w [] (.slice A es.length es.length) (.rof es)
  | rop {A} {us : List Value} {cs : List AV} (hr : Rd S w (some A) us) (hl : us.length = cs.length) (hc : ∀ (i : Nat) (u : Value) (x : AV), us[i]? = some u → cs[i]? = some x → Rep P S w [] u x) : Rep P S w [] (.pointer (some A)) (.rop cs)
  | own {v e es} {us : List Value} {sz} {bss : List (List Nat)} (hi : sizeIs P e sz) (hs : ∀ x ∈ es, x.length = sz) (ho : w.ownsRow 0 e sz v es.length us) (hl : us.length = es.flatten.length) (hb : bss.length = us.length)
      (hc : ∀ (i : Nat) (u : Value) (x : AV) (bs : List Nat), us[i]? = some u → es.flatten[i]? = some x → bss[i]? = some bs → Rep P S w bs u x) : Rep P S w (v.ownBlock.toList ++ bss.flatten) v (.own e es)

theorem ownsRow_one {w : World} {e : TypeId} {sz : Nat} {v : Value} {n : Nat} {us : List Value} (h : w.ownsRow 0 e sz v n us) : v.oneCell' = true := by
  rcases h.2 with ⟨rfl, _⟩ | ⟨_, _, _, rfl, _⟩ <;> rfl
theorem Rep.one {P : Program} {S : Nat → Prop} {w : World} {bs : List Nat} {u : Value} {x : AV} (h : Rep P S w bs u x) : u.oneCell' = true := by
  cases h with
  | any h => exact h
  | v h => exact h
  | sln => rfl
  | ro => rfl
  | rof => rfl
  | rop => rfl
  | own hi hs ho => exact ownsRow_one ho
theorem ownsRow_kept {S : Nat → Prop} {w w' : World} {e : TypeId} {sz : Nat} {v : Value} {n : Nat} {us : List Value} (h : w.ownsRow 0 e sz v n us) (hk : Kept S w w') (hb : ∀ b, v.ownBlock = some b → S b) : w'.ownsRow 0 e sz v n us := by
  refine ⟨h.1, ?_⟩
  rcases h.2 with hn | ⟨g, cap, cur, rfl, hb', hg, rest⟩
  · exact .inl hn
  · exact .inr ⟨g, cap, cur, rfl, hb', (hk.block g (Array.getElem?_eq_some_iff.1 hg).1 (hb g rfl)).trans hg, rest⟩
theorem Rep.kept {P : Program} {S T : Nat → Prop} {w w' : World} {bs : List Nat} {u : Value} {x : AV} (h : Rep P S w bs u x) (hk : Kept T w w') (hS : ∀ k, k < w.heap.size → S k → T k) (hb : ∀ b ∈ bs, T b) : Rep P S w' bs u x := by
  induction h with
  | any h => exact .any h
  | v h => exact .v h
  | sln h1 h2 => exact .sln h1 h2
  | ro h1 h2 hs hr hl hc ih => exact .ro h1 h2 hs (hr.kept (hk.mono hS)) hl fun i u x hu hx => ih i u x hu hx (by simp)
  | rof h2 hs hr hl hc ih => exact .rof h2 hs (hr.kept (hk.mono hS)) hl fun i u x hu hx => ih i u x hu hx (by simp)
  | rop hr hl hc ih => exact .rop (hr.kept (hk.mono hS)) hl fun i u x hu hx => ih i u x hu hx (by simp)
  | own hi hs ho hl hbl hc ih =>
    refine .own hi hs (ownsRow_kept ho hk fun b h => hb b (by simp [h])) hl hbl fun i u x bs hu hx hbs => ih i u x bs hu hx hbs fun b hm => hb b ?_
    exact List.mem_append_right _ (List.mem_flatten.2 ⟨bs, List.mem_of_getElem? hbs, hm⟩)
theorem Rep.mono {P : Program} {S S' : Nat → Prop} {w : World} {bs : List Nat} {u : Value} {x : AV} (h : Rep P S w bs u x) (hs : ∀ k, k < w.heap.size → S k → S' k) : Rep P S' w bs u x := by
  induction h with
  | any h => exact .any h
  | v h => exact .v h
  | sln h1 h2 => exact .sln h1 h2
  | ro h1 h2 hz hr hl hc ih => exact .ro h1 h2 hz (hr.mono hs) hl ih
  | rof h2 hz hr hl hc ih => exact .rof h2 hz (hr.mono hs) hl ih
  | rop hr hl hc ih => exact .rop (hr.mono hs) hl ih
  | own hi hz ho hl hbl hc ih => exact .own hi hz ho hl hbl ih
theorem Rep.v_inv {P : Program} {S : Nat → Prop} {w : World} {bs : List Nat} {u x : Value} (h : Rep P S w bs u (.v x)) : u = x ∧ bs = [] ∧ u.oneCell' = true := by
  cases h with
  | v h => exact ⟨rfl, rfl, h⟩
theorem Rep.any_inv {P : Program} {S : Nat → Prop} {w : World} {bs : List Nat} {u : Value} (h : Rep P S w bs u .any) : bs = [] ∧ u.oneCell' = true := by
  cases h with
  | any h => exact ⟨rfl, h⟩
theorem Rep.ro_inv {P : Program} {S : Nat → Prop} {w : World} {bs : List Nat} {u : Value} {es : List (List AV)} (h : Rep P S w bs u (.ro es)) : bs = [] ∧ ∃ A c sz us, u = .slice A es.length c ∧ es.length ≤ c ∧ c ≤ maxLen ∧ (∀ e ∈ es, e.length = sz) ∧ Rd S w A us ∧ us.length = es.flatten.length ∧ ∀ (i : Nat) (u : Value) (x : AV), us[i]? = some u → es.flatten[i]? = some x → Rep P S w [] u x := by
  cases h with
  | ro h1 h2 h3 h4 h5 h6 => exact ⟨rfl, _, _, _, _, rfl, h1, h2, h3, h4, h5, h6⟩
theorem Rep.rof_inv {P : Program} {S : Nat → Prop} {w : World} {bs : List Nat} {u : Value} {es : List (List AV)} (h : Rep P S w bs u (.rof es)) : bs = [] ∧ ∃ A sz us, u = .slice A es.length es.length ∧ es.length ≤ maxLen ∧ (∀ e ∈ es, e.length = sz) ∧ Rd S w A us ∧ us.length = es.flatten.length ∧ ∀ (i : Nat) (u : Value) (x : AV), us[i]? = some u → es.flatten[i]? = some x → Rep P S w [] u x := by
  cases h with
  | rof h2 h3 h4 h5 h6 => exact ⟨rfl, _, _, _, rfl, h2, h3, h4, h5, h6⟩
theorem Rep.ro_of_rof {P : Program} {S : Nat → Prop} {w : World} {bs : List Nat} {u : Value} {es : List (List AV)} (h : Rep P S w bs u (.rof es)) : Rep P S w bs u (.ro es) := by
  obtain ⟨rfl, A, sz, us, rfl, h2, h3, h4, h5, h6⟩ := h.rof_inv
  exact .ro (Nat.le_refl _) h2 h3 h4 h5 h6
theorem Rep.rop_inv {P : Program} {S : Nat → Prop} {w : World} {bs : List Nat} {u : Value} {cs : List AV} (h : Rep P S w bs u (.rop cs)) : bs = [] ∧ ∃ A us, u = .pointer (some A) ∧ Rd S w (some A) us ∧ us.length = cs.length ∧ ∀ (i : Nat) (u : Value) (x : AV), us[i]? = some u → cs[i]? = some x → Rep P S w [] u x := by
  cases h with
  | rop h1 h2 h3 => exact ⟨rfl, _, _, rfl, h1, h2, h3⟩
theorem Rep.sln_inv {P : Program} {S : Nat → Prop} {w : World} {bs : List Nat} {u : Value} {n : Nat} (h : Rep P S w bs u (.sln n)) : bs = [] ∧ ∃ A c, u = .slice A n c ∧ n ≤ c ∧ c ≤ maxLen := by
  cases h with
  | sln h1 h2 => exact ⟨rfl, _, _, rfl, h1, h2⟩
theorem Rep.own_inv {P : Program} {S : Nat → Prop} {w : World} {bs : List Nat} {v : Value} {e : TypeId} {es : List (List AV)} (h : Rep P S w bs v (.own e es)) : ∃ (us : List Value) (sz : Nat) (bss : List (List Nat)), bs = v.ownBlock.toList ++ bss.flatten ∧ sizeIs P e sz ∧ (∀ x ∈ es, x.length = sz) ∧ w.ownsRow 0 e sz v es.length us ∧ us.length = es.flatten.length ∧ bss.length = us.length ∧ ∀ (i : Nat) (u : Value) (x : AV) (bs : List Nat), us[i]? = some u → es.flatten[i]? = some x → bss[i]? = some bs → Rep P S w bs u x := by
  cases h with
  | own h1 h2 h3 h4 h5 h6 => exact ⟨_, _, _, rfl, h1, h2, h3, h4, h5, h6⟩
theorem Rep.lt {P : Program} {S : Nat → Prop} {w : World} {bs : List Nat} {u : Value} {x : AV} (h : Rep P S w bs u x) : ∀ b ∈ bs, b < w.heap.size := by
  induction h with
  | own hi hz ho hl hbl hc ih =>
    intro b hb
    rcases List.mem_append.1 hb with h | h
    · exact (ho.lt b (by simpa [Option.mem_toList] using h)).2
    · obtain ⟨bs, h1, h2⟩ := List.mem_flatten.1 h
      obtain ⟨i, hi, rfl⟩ := List.getElem_of_mem h1
      have hiu := hbl ▸ hi
      exact ih i _ _ _ (List.getElem?_eq_getElem hiu) (List.getElem?_eq_getElem (hl ▸ hiu)) (List.getElem?_eq_getElem hi) b h2
  | _ => intro b hb; simp at hb

/-! ### The state -/

structure Sl where
  slots : List (Nat × AV)
  ep : Nat

/-- What stays fixed while a function runs: the program; what may be read for good; the blocks and the slots that came in; the world at the start. -/
structure Cx where
  P : Program
  S0 : Nat → Prop
  own0 : List Nat
  v0 : List Value
  w0 : World

/-- How part of a slice that lies at v is spelled. -/
def SubS (sz : Nat) (v : Value) (off len : Nat) (u : Value) : Prop :=
  ∃ A n cap, v = .slice A n cap ∧ off + len ≤ n ∧ n ≤ cap ∧ cap ≤ maxLen ∧ ((off = 0 ∧ u = .slice A len cap) ∨
    (∃ A', 0 < off ∧ u = .slice A' len (cap - off) ∧ (0 < len → ∃ g, A = some ⟨g, 0, none⟩ ∧ A' = some ⟨g, off * sz, none⟩)))

def RefOK (P : Program) (S : Nat → Prop) (w : World) (T : Sl) (vals : List Value) (u : Value) : AV → Prop
  | .sl r k off len => k < T.ep ∧ u.oneCell' = true ∧ ∀ e es v sz, T.slots[r]? = some (k, .own e es) → vals[r]? = some v → sizeIs P e sz → off + len ≤ es.length ∧ SubS sz v off len u
  | .ptr r k i j => k < T.ep ∧ u.oneCell' = true ∧ ∀ e es v sz, T.slots[r]? = some (k, .own e es) → vals[r]? = some v → sizeIs P e sz → i < es.length ∧ ∃ g n cap, v = .slice (some ⟨g, 0, none⟩) n cap ∧ u = .pointer (some ⟨g, i * sz + j, none⟩)
  | .mp r k => k < T.ep ∧ u.oneCell' = true ∧ ∀ b ks v, T.slots[r]? = some (k, .om b ks) → vals[r]? = some v → u = v
  | x => Rep P S w [] u x

/-- Two lists, side by side. -/
def RL {α β : Type} (R : α → β → Prop) (us : List α) (xs : List β) : Prop := us.length = xs.length ∧ ∀ (i : Nat) (u : α) (x : β), us[i]? = some u → xs[i]? = some x → R u x
theorem RL.mono {α β : Type} {R R' : α → β → Prop} {us : List α} {xs : List β} (h : RL R us xs) (hr : ∀ u x, R u x → R' u x) : RL R' us xs := ⟨h.1, fun i u x hu hx => hr _ _ (h.2 i u x hu hx)⟩
theorem RL.nil {α β : Type} {R : α → β → Prop} : RL R [] [] := ⟨rfl, fun i u x h => by simp at h⟩
theorem RL.cons {α β : Type} {R : α → β → Prop} {u : α} {x : β} {us : List α} {xs : List β} (h : R u x) (t : RL R us xs) : RL R (u :: us) (x :: xs) :=
  ⟨by simp [t.1], fun i a b ha hb => by
    cases i with
    | zero => simp at ha hb; subst ha; subst hb; exact h
    | succ i => exact t.2 i a b (by simpa using ha) (by simpa using hb)⟩
theorem RL.nil_inv {α β : Type} {R : α → β → Prop} {us : List α} (h : RL R us []) : us = [] := List.eq_nil_of_length_eq_zero h.1
theorem RL.cons_inv {α β : Type} {R : α → β → Prop} {us : List α} {x : β} {xs : List β} (h : RL R us (x :: xs)) : ∃ u us', us = u :: us' ∧ R u x ∧ RL R us' xs := by
  cases us with
  | nil => have := h.1; simp at this
  | cons u us =>
    refine ⟨u, us, rfl, h.2 0 u x rfl rfl, by have := h.1; simpa using this, fun i a b ha hb => h.2 (i + 1) a b (by simpa using ha) (by simpa using hb)⟩
theorem RL.at_ {α β : Type} {R : α → β → Prop} {us : List α} {xs : List β} (h : RL R us xs) {i : Nat} {x : β} (hx : xs[i]? = some x) : ∃ u, us[i]? = some u ∧ R u x := by
  have hi : i < us.length := by have := (List.getElem?_eq_some_iff.1 hx).1; rw [h.1]; exact this
  exact ⟨us[i], List.getElem?_eq_getElem hi, h.2 i _ x (List.getElem?_eq_getElem hi) hx⟩
theorem RL.part {α β : Type} {R : α → β → Prop} {us : List α} {xs : List β} (h : RL R us xs) (k n : Nat) : RL R ((us.drop k).take n) ((xs.drop k).take n) := by
  refine ⟨by simp [h.1], fun i u x hu hx => ?_⟩
  rw [List.getElem?_take] at hu hx
  split at hu
  · rw [if_pos (by assumption)] at hx
    rw [List.getElem?_drop] at hu hx
    exact h.2 _ u x hu hx
  · cases hu
theorem RL.append {α β : Type} {R : α → β → Prop} {us us' : List α} {xs xs' : List β} (h : RL R us xs) (h' : RL R us' xs') : RL R (us ++ us') (xs ++ xs') := by
  refine ⟨by simp [h.1, h'.1], fun i u x hu hx => ?_⟩
  by_cases hi : i < us.length
  · rw [List.getElem?_append_left hi] at hu
    rw [List.getElem?_append_left (by rw [← h.1]; exact hi)] at hx
    exact h.2 i u x hu hx
  · rw [List.getElem?_append_right (by omega)] at hu
    rw [List.getElem?_append_right (by rw [← h.1]; omega), ← h.1] at hx
    exact h'.2 _ u x hu hx

def AggOK (P : Program) (S : Nat → Prop) (w : World) (T : Sl) (vals : List Value) (u : Value) : AV → Prop
  | .any => True
  | .agg cs => ∃ us, u = .agg us ∧ RL (RefOK P S w T vals) us.toList cs
  | x => RefOK P S w T vals u x
def TmpOK (P : Program) (S : Nat → Prop) (w : World) (T : Sl) (vals : List Value) (u : Value) : AV → Prop
  | .tup xs => ∃ us, u = .tuple us ∧ RL (AggOK P S w T vals) us.toList xs
  | x => AggOK P S w T vals u x

/-- The memory. -/
structure Mem (C : Cx) (T : Sl) (S : Nat → Prop) (vals : List Value) (bss : List (List Nat)) (w : World) : Prop where
  kept : Kept (fun k => k ∉ C.own0) C.w0 w
  s0 : ∀ k, C.S0 k → S k
  sub : ∀ k, S k → C.S0 k ∨ k ∈ C.own0 ∨ C.w0.heap.size ≤ k
  lt : ∀ k, S k → k < w.heap.size
  nv : vals.length = T.slots.length
  nb : bss.length = T.slots.length
  rep : ∀ (r k : Nat) (x : AV) (v : Value) (bs : List Nat), T.slots[r]? = some (k, x) → vals[r]? = some v → bss[r]? = some bs → Rep C.P S w bs v x
  nodup : ∀ (r : Nat) (bs : List Nat), bss[r]? = some bs → bs.Nodup
  disj : ∀ (r r' : Nat) (bs bs' : List Nat), r ≠ r' → bss[r]? = some bs → bss[r']? = some bs' → ∀ b ∈ bs, b ∉ bs'
  apart : ∀ (r : Nat) (bs : List Nat), bss[r]? = some bs → ∀ b ∈ bs, ¬ S b
  mine : ∀ (r : Nat) (bs : List Nat), bss[r]? = some bs → ∀ b ∈ bs, b ∈ C.own0 ∨ C.w0.heap.size ≤ b
  root : ∀ (r : Nat) (x : AV), r < C.v0.length → T.slots[r]? = some (0, x) → vals[r]? = C.v0[r]?
  ver : ∀ (r k : Nat) (x : AV), T.slots[r]? = some (k, x) → k < T.ep
  pos : 0 < T.ep

theorem RefOK.kept {P : Program} {S S' K : Nat → Prop} {w w' : World} {T : Sl} {vals : List Value} {u : Value} {x : AV} (h : RefOK P S w T vals u x) (hk : Kept K w w') (hK : ∀ k, k < w.heap.size → S k → K k) (hS : ∀ k, S k → S' k) : RefOK P S' w' T vals u x := by
  have key : ∀ x, Rep P S w [] u x → Rep P S' w' [] u x := fun x h => (h.kept hk hK (by simp)).mono fun k _ => hS k
  cases x with
  | sl r k off len => exact h
  | ptr r k i j => exact h
  | mp r k => exact h
  | _ => exact key _ h
theorem RefOK.one {P : Program} {S : Nat → Prop} {w : World} {T : Sl} {vals : List Value} {u : Value} {x : AV} (h : RefOK P S w T vals u x) : u.oneCell' = true := by
  cases x with
  | sl r k off len => exact h.2.1
  | ptr r k i j => exact h.2.1
  | mp r k => exact h.2.1
  | _ => exact Rep.one h
/-- What one state's references say the next state's say. -/
def Follows (P : Program) (S : Nat → Prop) (w : World) (T : Sl) (vals : List Value) (S' : Nat → Prop) (w' : World) (T' : Sl) (vals' : List Value) : Prop :=
  ∀ u x, RefOK P S w T vals u x → RefOK P S' w' T' vals' u x
theorem AggOK.follows {P : Program} {S S' : Nat → Prop} {w w' : World} {T T' : Sl} {vals vals' : List Value} (hf : Follows P S w T vals S' w' T' vals') {u : Value} {x : AV} (h : AggOK P S w T vals u x) : AggOK P S' w' T' vals' u x := by
  cases x with
  | any => trivial
  | agg cs => obtain ⟨us, e, r⟩ := h; exact ⟨us, e, r.mono fun u x => hf u x⟩
  | _ => simp only [TmpOK, AggOK] at h ⊢; exact hf u _ h
theorem TmpOK.follows {P : Program} {S S' : Nat → Prop} {w w' : World} {T T' : Sl} {vals vals' : List Value} (hf : Follows P S w T vals S' w' T' vals') {u : Value} {x : AV} (h : TmpOK P S w T vals u x) : TmpOK P S' w' T' vals' u x := by
  cases x with
  | tup xs => obtain ⟨us, e, r⟩ := h; exact ⟨us, e, r.mono fun u x => AggOK.follows hf⟩
  | any => exact trivial
  | agg cs => exact AggOK.follows hf (x := .agg cs) h
  | _ => simp only [TmpOK, AggOK] at h ⊢; exact hf u _ h
theorem Follows.refl {P : Program} {S : Nat → Prop} {w : World} {T : Sl} {vals : List Value} : Follows P S w T vals S w T vals := fun _ _ h => h
theorem Follows.kept {P : Program} {S S' K : Nat → Prop} {w w' : World} {T : Sl} {vals : List Value} (hk : Kept K w w') (hK : ∀ k, k < w.heap.size → S k → K k) (hS : ∀ k, S k → S' k) : Follows P S w T vals S' w' T vals := fun _ _ h => h.kept hk hK hS
theorem Rep.plain {P : Program} {S : Nat → Prop} {w : World} {bs : List Nat} {u : Value} {x : AV} (h : Rep P S w bs u x) (cs : List AV) : x ≠ .agg cs ∧ x ≠ .tup cs := by
  cases h <;> simp
theorem RefOK.tmp {P : Program} {S : Nat → Prop} {w : World} {T : Sl} {vals : List Value} {u : Value} {x : AV} (h : RefOK P S w T vals u x) : TmpOK P S w T vals u x := by
  cases x with
  | any => exact trivial
  | agg cs => exact absurd rfl (Rep.plain (show Rep P S w [] u (.agg cs) from h) cs).1
  | tup cs => exact absurd rfl (Rep.plain (show Rep P S w [] u (.tup cs) from h) cs).2
  | _ => exact h

/-! ### The judgement of one operation -/

def evA (env : Nat → AV) : Operand → AV
  | .tmp t => env t
  | .const x => if x.oneCell' then .v x else match x with | .agg cs => .agg (cs.toList.map .v) | _ => .any
  | .func f => .v (.func (.func f) #[] #[])
  | .global g => .v (.pointer (some ⟨g, 0, none⟩))

/-- Operation o, its operands as ev says and the slots T, yields x and leaves the slots T'. -/
def OpJ (C : Cx) (o : Oper) (ev : Operand → AV) (T : Sl) (x : AV) (T' : Sl) : Prop :=
  ∀ (a : Act) (w : World) (S : Nat → Prop) (vals : List Value) (bss : List (List Nat)), Mem C T S vals bss w → (∀ y ∈ o.op.operands, TmpOK C.P S w T vals (a.eval y) (ev y)) →
    ∀ (K : Act → World → Prop), (∀ v w' S' vals' bss', Mem C T' S' vals' bss' w' → Follows C.P S w T vals S' w' T' vals' → TmpOK C.P S' w' T' vals' v x → K (a.put o.dst v) w') →
      ∀ Q, o.wp C.P a w K Q

/-- .. of which the world takes no notice. -/
def OpP (C : Cx) (o : Oper) (ev : Operand → AV) (T : Sl) (x : AV) : Prop :=
  ∀ (a : Act) (w : World) (S : Nat → Prop) (vals : List Value) (bss : List (List Nat)), Mem C T S vals bss w → (∀ y ∈ o.op.operands, TmpOK C.P S w T vals (a.eval y) (ev y)) →
    ∃ v, (∀ w, (execOp a.eval o).run C.P w = .ok (.value v) w) ∧ TmpOK C.P S w T vals v x
theorem OpP.j {C : Cx} {o : Oper} {ev : Operand → AV} {T : Sl} {x : AV} (h : OpP C o ev T x) : OpJ C o ev T x T := by
  intro a w S vals bss hm ho K hK Q
  obtain ⟨v, hr, hx⟩ := h a w S vals bss hm ho
  unfold Oper.wp
  rw [hr w]
  exact hK v w S vals bss hm Follows.refl hx

structure Sta where
  env : Nat → AV
  T : Sl
  n : Nat

def St (C : Cx) (σ : Sta) (a : Act) (w : World) : Prop :=
  a.defers = [] ∧ a.tmps.size = σ.n ∧ ∃ S vals bss, Mem C σ.T S vals bss w ∧ ∀ t, t < σ.n → TmpOK C.P S w σ.T vals (a.tmps.getD t undef) (σ.env t)

def upd (env : Nat → AV) (d : Nat) (x : AV) : Nat → AV := fun t => if t = d then x else env t
def putE (env : Nat → AV) : Option Tmp → AV → (Nat → AV)
  | some d, x => upd env d x
  | none, _ => env

def hat (C : Cx) (Q : Exit → Sta → Prop) : Exit → Act → World → Prop := fun e a w => ∃ σ, St C σ a w ∧ Q e σ
def AW (C : Cx) (c : Code) (Q : Exit → Sta → Prop) (σ : Sta) : Prop := ∀ a w, St C σ a w → c.wp C.P (hat C Q) a w
def AWL (C : Cx) (ops : Array Oper) (Q : Exit → Sta → Prop) (l : List Oper) (σ : Sta) : Prop := ∀ a w, St C σ a w → wpList C.P ops (hat C Q) l a w

theorem Act.size_put (a : Act) (d : Option Tmp) (v : Value) : (a.put d v).tmps.size = a.tmps.size := by cases d <;> simp [Act.put]
theorem Act.defers_put (a : Act) (d : Option Tmp) (v : Value) : (a.put d v).defers = a.defers := by cases d <;> rfl
theorem Act.getD_put (a : Act) (d : Option Tmp) (v : Value) (t : Nat) : (a.put d v).tmps.getD t undef = if d = some t ∧ t < a.tmps.size then v else a.tmps.getD t undef := by
  cases d with
  | none => simp [Act.put]
  | some d =>
    by_cases h : d = t
    · subst h
      by_cases hlt : d < a.tmps.size <;> simp [Act.put, hlt]
    · simp [Act.put, h, Array.getElem?_setIfInBounds_ne h]
/-- Behind an operation. -/
theorem St.put {C : Cx} {σ : Sta} {a : Act} {w w' : World} {S S' : Nat → Prop} {vals vals' : List Value} {bss' : List (List Nat)} {T' : Sl} {d : Option Tmp} {v : Value} {x : AV}
    (hd : a.defers = []) (hn : a.tmps.size = σ.n) (he : ∀ t, t < σ.n → TmpOK C.P S w σ.T vals (a.tmps.getD t undef) (σ.env t))
    (hm : Mem C T' S' vals' bss' w') (hf : Follows C.P S w σ.T vals S' w' T' vals') (hx : TmpOK C.P S' w' T' vals' v x) : St C ⟨putE σ.env d x, T', σ.n⟩ (a.put d v) w' := by
  refine ⟨by rw [Act.defers_put, hd], by rw [Act.size_put, hn], S', vals', bss', hm, fun t ht => ?_⟩
  rw [Act.getD_put]
  cases d with
  | none => rw [if_neg (by simp)]; exact TmpOK.follows hf (he t ht)
  | some d =>
    by_cases h : d = t
    · subst h
      rw [if_pos ⟨rfl, by rw [hn]; exact ht⟩]
      simpa [putE, upd] using hx
    · rw [if_neg (fun h' => h (by simpa using h'.1))]
      have : (putE σ.env (some d) x) t = σ.env t := by simp [putE, upd]; intro h'; exact absurd h'.symm h
      show TmpOK C.P S' w' T' vals' (a.tmps.getD t undef) (putE σ.env (some d) x t)
      rw [this]
      exact TmpOK.follows hf (he t ht)
def noneBig : Operand → Nat → Bool
  | .tmp t, n => t < n
  | _, _ => true
def constOk : Operand → Bool
  | .const x => x.oneCell' || (match x with | .agg cs => cs.all (·.oneCell') | _ => false)
  | _ => true
theorem St.eval {C : Cx} {σ : Sta} {a : Act} {w : World} {S : Nat → Prop} {vals : List Value} (hn : a.tmps.size = σ.n) (he : ∀ t, t < σ.n → TmpOK C.P S w σ.T vals (a.tmps.getD t undef) (σ.env t))
    (y : Operand) (hy : noneBig y σ.n = true) (hc : constOk y = true) : TmpOK C.P S w σ.T vals (a.eval y) (evA σ.env y) := by
  cases y with
  | tmp t => exact he t (by simpa [noneBig] using hy)
  | const x =>
    simp only [evA, Act.eval]
    by_cases h1 : x.oneCell' = true
    · rw [if_pos h1]; exact Rep.v h1
    · rw [if_neg h1]
      simp only [constOk, Bool.or_eq_true, h1, false_or] at hc
      cases x with
      | agg cs =>
        refine ⟨cs, rfl, by simp, fun i u x hu hx => ?_⟩
        simp only [List.getElem?_map] at hx
        rw [hu] at hx
        simp at hx
        subst hx
        refine Rep.v ?_
        simp only [Array.all_eq_true_iff_forall_mem] at hc
        exact (hc.resolve_left (by simp)) u (Array.mem_toList_iff.1 (List.mem_of_getElem? hu))
      | _ => simp at hc
  | func f => exact Rep.v rfl
  | global g => exact Rep.v rfl
def callL (c : Call) : List Operand := (match c.callee with | .value f => [f] | .invoke r _ => [r] | .builtin _ => []) ++ c.args.toList
/-- The operands, as a list. -/
def opsL : Op → List Operand
  | .alloc _ | .ready _ | .waits _ => []
  | .move x | .assign x | .box _ x | .load _ x | .nilCheck x | .unOp _ _ x | .convert _ _ x | .sliceToArrayPointer _ x | .makeInterface _ x
  | .makeChan _ x | .fieldAddr _ x _ | .field _ x _ | .range _ x | .next x _ | .entry x | .typeAssert x _ _ _ | .extract x _ | .panic x | .recv _ x _ => [x]
  | .pick c a b => [c, a, b]
  | .build _ ps | .buildSlice _ _ ps => ps.toList.map (·.2)
  | .store _ a v | .binOp _ _ a v _ | .makeSlice _ a v | .indexAddr _ a v | .index _ a v | .lookup _ a v _ | .mapEntry _ a v | .send a v => [a, v]
  | .makeFunc _ first captured => first.toList ++ captured.toList
  | .makeMap _ r => r.toList
  | .slice _ x l h m => [x] ++ l.toList ++ h.toList ++ m.toList
  | .mapUpdate _ m k v | .entryStore _ m k v | .insert _ m k v => [m, k, v]
  | .call c | .go c | .defer c => callL c
  | .select cs _ => (cs.flatMap fun c => #[c.chan] ++ c.send.toArray).toList
theorem opsL_eq (o : Op) : o.operands.toList = opsL o := by
  cases o <;> simp [Op.operands, opsL, callL, Call.operands] <;> (first | rfl | (rename_i c; cases c.callee <;> simp) | skip)
def opsOk (o : Oper) (n : Nat) : Bool := (opsL o.op).all fun y => noneBig y n && constOk y
theorem AWL.nil {C : Cx} {ops : Array Oper} {Q : Exit → Sta → Prop} {σ : Sta} (h : Q .normal σ) : AWL C ops Q [] σ := fun a w hs => ⟨σ, hs, h⟩
theorem St.ops {C : Cx} {σ : Sta} {a : Act} {w : World} {S : Nat → Prop} {vals : List Value} (hn : a.tmps.size = σ.n) (he : ∀ t, t < σ.n → TmpOK C.P S w σ.T vals (a.tmps.getD t undef) (σ.env t)) {o : Oper} (ho : opsOk o σ.n = true) :
    ∀ y ∈ o.op.operands, TmpOK C.P S w σ.T vals (a.eval y) (evA σ.env y) := fun y hy => by
  have := List.all_eq_true.1 ho y (by rw [← opsL_eq]; exact Array.mem_toList_iff.2 hy)
  simp only [Bool.and_eq_true] at this
  exact St.eval hn he y this.1 this.2
theorem AWL.op {C : Cx} {ops : Array Oper} {Q : Exit → Sta → Prop} {o : Oper} {l : List Oper} {σ : Sta} {x : AV} {T' : Sl} (hg : o.guard = none) (ho : opsOk o σ.n = true) (hj : OpJ C o (evA σ.env) σ.T x T') (h : AWL C ops Q l ⟨putE σ.env o.dst x, T', σ.n⟩) : AWL C ops Q (o :: l) σ := by
  intro a w hs
  obtain ⟨hd, hn, S, vals, bss, hm, he⟩ := hs
  refine wpList_plain hg fun K hK => ?_
  exact hj a w S vals bss hm (St.ops hn he ho) K (fun v w' S' vals' bss' hm' hf hx => hK _ _ (h _ _ (St.put hd hn he hm' hf hx))) _
end Go.Proofs.Ytngfknoddphhaaa
