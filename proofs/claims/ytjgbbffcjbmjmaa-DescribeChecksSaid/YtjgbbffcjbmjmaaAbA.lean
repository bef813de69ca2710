import Derived.WalkKit
import Derived.WalkLawsBesides
import Derived.WalkSpells
import Derived.Deep.QuietTactic
import Derived.BigQuiet
import Derived.Lib.Hide
import Derived.Deep.Draws
import Derived.Maps.AppendAt
import Derived.Maps.Own
import Derived.Carry
import Derived.DeepKeys4
import Derived.Deep.AppendLies
import Derived.RegionTactic
import Derived.OwnWalk
import Derived.Deep.DeepFit
import Derived.Deep.DeepMust
import Derived.StillTailTactics
import Derived.Deep.RegionLaw
import Derived.Deep.RegionHeld3
import Derived.ArgAppend
namespace Go.Proofs.Ytjgbbffcjbmjmaa
open Go.RowKit
set_option linter.unusedSimpArgs false
set_option linter.unusedVariables false

structure Kept (S : Nat → Prop) (w w' : World) : Prop where
  os : w'.os = w.os
  tape : w'.tape = w.tape
  output : w'.output = w.output
  size : w.heap.size ≤ w'.heap.size
  block : ∀ k, k < w.heap.size → S k → w'.heap[k]? = w.heap[k]?

theorem Kept.refl (S : Nat → Prop) (w : World) : Kept S w w := ⟨rfl, rfl, rfl, Nat.le_refl _, fun _ _ _ => rfl⟩
theorem Kept.trans {S : Nat → Prop} {a b c : World} (h : Kept S a b) (k : Kept S b c) : Kept S a c :=
  ⟨k.os.trans h.os, k.tape.trans h.tape, k.output.trans h.output, Nat.le_trans h.size k.size, fun i hi hs => (k.block i (Nat.lt_of_lt_of_le hi h.size) hs).trans (h.block i hi hs)⟩
theorem Kept.mono {S S' : Nat → Prop} {a b : World} (h : Kept S a b) (hs : ∀ k, k < a.heap.size → S' k → S k) : Kept S' a b :=
  ⟨h.os, h.tape, h.output, h.size, fun i hi hk => h.block i hi (hs i hi hk)⟩
theorem Kept.drew {S : Nat → Prop} {a w : World} (h : Kept S a w) : Kept S a w.drew := ⟨h.os, h.tape, h.output, h.size, h.block⟩
theorem Kept.alloc {S : Nat → Prop} {a w : World} (h : Kept S a w) (o : Obj) : Kept S a (w.alloc o) :=
  h.trans ⟨rfl, rfl, rfl, by simp, fun k hk _ => Below.heap_alloc _ _ _ hk⟩
theorem Kept.setCell {S : Nat → Prop} {a w : World} (h : Kept S a w) {p : Addr} (hp : ¬ S p.block ∨ a.heap.size ≤ p.block) (u : Value) : Kept S a (w.setCell p u) :=
  ⟨h.os, h.tape, h.output, by have := h.size; simpa [World.setCell] using this, fun k hk hs => (Below.heap_setCell _ _ _ _ (by
    rintro rfl
    rcases hp with hp | hp
    · exact hp hs
    · omega)).trans (h.block k hk hs)⟩
theorem Kept.grown {S : Nat → Prop} {a w w' : World} (h : Kept S a w) {row : Option Nat} (hg : w.grownBy w' row) (hr : ∀ k, row = some k → ¬ S k ∨ a.heap.size ≤ k) : Kept S a w' :=
  ⟨hg.os.trans h.os, hg.tape.trans h.tape, hg.output.trans h.output, Nat.le_trans h.size hg.size, fun k hk hs => (hg.block k (Nat.lt_of_lt_of_le hk h.size) (by
    rintro rfl
    rcases hr k rfl with hp | hp
    · exact hp hs
    · omega)).trans (h.block k hk hs)⟩
theorem Kept.below {w w' : World} (h : Kept (fun _ => True) w w') : Below w.heap.size w w' := ⟨h.os, h.tape, h.output, h.size, fun k hk => h.block k hk trivial⟩
theorem Kept.cell {S : Nat → Prop} {w w' : World} (h : Kept S w w') {p : Addr} {v : Value} (hp : w.cell? p = some v) (hs : S p.block) : w'.cell? p = some v :=
  (World.cell?_of_block (h.block p.block (World.block_lt_of_cell? w p hp) hs)).trans hp
theorem Kept.then {S T : Nat → Prop} {a b c : World} (h : Kept S a b) (k : Kept T b c) (hT : ∀ i, i < a.heap.size → S i → T i) : Kept S a c :=
  ⟨k.os.trans h.os, k.tape.trans h.tape, k.output.trans h.output, Nat.le_trans h.size k.size, fun i hi hs => (k.block i (Nat.lt_of_lt_of_le hi h.size) (hT i hi hs)).trans (h.block i hi hs)⟩

/-- Pieces of data as a walk knows them. -/
inductive AV where
  | any
  | v (x : Value)
  | sln (n : Nat)
  | ro (es : List (List AV))
  | rof (es : List (List AV))
  | rop (cs : List AV)
  | own (e : TypeId) (es : List (List AV))
  | om (b : Nat) (ks : List Value)
  | agg (cs : List AV)
  | tup (cs : List AV)
  | sl (r k off len : Nat)
  | ptr (r k i j : Nat)
  | mp (r k : Nat)
  | nm (u : Value) (e : TypeId) (es : List (List AV))
  | byt (u : Value) (e : TypeId) (us : List Value)
  | clo (f : FuncId) (caps : List AV)
  deriving Inhabited

/-- The cells us lie from the address on, in one block of which S holds. -/
def Rd (S : Nat → Prop) (w : World) (A : Option Addr) (us : List Value) : Prop :=
  0 < us.length → ∃ g o, A = some ⟨g, o, none⟩ ∧ S g ∧ ∀ j u, us[j]? = some u → w.cell? ⟨g, o + j, none⟩ = some u
theorem Rd.kept {S : Nat → Prop} {w w' : World} {A : Option Addr} {us : List Value} (h : Rd S w A us) (hk : Kept S w w') : Rd S w' A us := fun hn => by
  obtain ⟨g, o, e, hb, hc⟩ := h hn
  exact ⟨g, o, e, hb, fun j u hu => hk.cell (hc j u hu) hb⟩
theorem Rd.mono {S S' : Nat → Prop} {w : World} {A : Option Addr} {us : List Value} (h : Rd S w A us) (hs : ∀ k, k < w.heap.size → S k → S' k) : Rd S' w A us := fun hn => by
  obtain ⟨g, o, e, hb, hc⟩ := h hn
  have h0 := hc 0 us[0] (List.getElem?_eq_getElem hn)
  exact ⟨g, o, e, hs _ (World.block_lt_of_cell? w _ h0) hb, hc⟩

def sizeIs (P : Program) (e : TypeId) (sz : Nat) : Prop := (P.info? e).map (·.size) = some sz
theorem sizeIs.inj {P : Program} {e : TypeId} {a b : Nat} (h : sizeIs P e a) (h' : sizeIs P e b) : a = b := by
  unfold sizeIs at h h'; rw [h] at h'; injection h'

/-- The datum of a set of keys. -/
def setD (P : Program) (k : TypeId) : List Value → DataW Unit
  | [] => .map []
  | x :: ks => (setD P k ks).put ((keyOf P k x).getD (.bool false)) (.lit (.bool true))
/-- How a cell stands for a piece of data; bs: the blocks that it owns. -/
inductive Rep (P : Program) (S : Nat → Prop) (w : World) : List Nat → Value → AV → Prop
  | any {u} (h : u.oneCell' = true) : Rep P S w [] u .any
  | v {u} (h : u.oneCell' = true) : Rep P S w [] u (.v u)
  | sln {A n c} (h1 : n ≤ c) (h2 : c ≤ maxLen) : Rep P S w [] (.slice A n c) (.sln n)
  | ro {A c sz es} {us : List Value} (h1 : es.length ≤ c) (h2 : c ≤ maxLen) (hs : ∀ e ∈ es, e.length = sz) (hr : Rd S w A us)
      (hl : us.length = es.flatten.length) (hc : ∀ (i : Nat) (u : Value) (x : AV), us[i]? = some u → es.flatten[i]? = some x → Rep P S w [] u x) : Rep P S w [] (.slice A es.length c) (.ro es)
  | rof {A sz es} {us : List Value} (h2 : es.length ≤ maxLen) (hs : ∀ e ∈ es, e.length = sz) (hr : Rd S w A us)
      (hl : us.length = es.flatten.length) (hc : ∀ (i : Nat) (u : Value) (x : AV), us[i]? = some u → es.flatten[i]? = some x → Rep P S w [] u x) : Rep P S w [] (.slice A es.length es.length) (.rof es)
  | rop {A} {us : List Value} {cs : List AV} (hr : Rd S w (some A) us) (hl : us.length = cs.length) (hc : ∀ (i : Nat) (u : Value) (x : AV), us[i]? = some u → cs[i]? = some x → Rep P S w [] u x) : Rep P S w [] (.pointer (some A)) (.rop cs)
  | own {v e es} {us : List Value} {sz} {bss : List (List Nat)} (hi : sizeIs P e sz) (hs : ∀ x ∈ es, x.length = sz) (ho : w.ownsRow 0 e sz v es.length us) (hl : us.length = es.flatten.length) (hb : bss.length = us.length)
      (hc : ∀ (i : Nat) (u : Value) (x : AV) (bs : List Nat), us[i]? = some u → es.flatten[i]? = some x → bss[i]? = some bs → Rep P S w bs u x) : Rep P S w (v.ownBlock.toList ++ bss.flatten) v (.own e es)
  | om {t k e b n ks} (ht : P.underlying t = some (.map k e)) (he : P.underlying e = some .bool) (K : Go.Maps.Keyed P k) (hk : ∀ x ∈ ks, ∃ kl, keyOf P k x = some kl) (h : w.ownsMap (H := Unit) P k (plainElem P e) b n (setD P k ks)) (hn : n ≤ ks.length) : Rep P S w [b] (.map (some b)) (.om t ks)
  | nm {v e es bs} (h : Rep P S w bs v (.own e es)) : Rep P S w bs v (.nm v e es)
  | byt {g c e fr us} {cur : Array Value} (hg : w.heap[g]? = some (.cells cur e fr)) (hf : fr.1 = cur.size) (hc : cur.size = c) (ht : cur.toList.take us.length = us) (ho : ∀ u ∈ us, u.oneCell' = true) (h1 : us.length ≤ c) (h2 : c ≤ maxLen) : Rep P S w [g] (.slice (some ⟨g, 0, none⟩) us.length c) (.byt (.slice (some ⟨g, 0, none⟩) us.length c) e us)
  | clo {f caps} {us : List Value} (hl : us.length = caps.length) (hc : ∀ (i : Nat) (u : Value) (x : AV), us[i]? = some u → caps[i]? = some x → Rep P S w [] u x) : Rep P S w [] (.func (.func f) #[] us.toArray) (.clo f caps)

theorem ownsRow_one {w : World} {e : TypeId} {sz : Nat} {v : Value} {n : Nat} {us : List Value} (h : w.ownsRow 0 e sz v n us) : v.oneCell' = true := by
  rcases h.2 with ⟨rfl, _⟩ | ⟨_, _, _, rfl, _⟩ <;> rfl
theorem Rep.one {P : Program} {S : Nat → Prop} {w : World} {bs : List Nat} {u : Value} {x : AV} (h : Rep P S w bs u x) : u.oneCell' = true := by
  cases h with
  | any h => exact h
  | v h => exact h
  | sln => rfl
  | ro => rfl
  | rof => rfl
  | rop => rfl
  | clo => rfl
  | own hi hs ho => exact ownsRow_one ho
  | om => rfl
  | byt => rfl
  | nm h => cases h with
    | own hi hs ho => exact ownsRow_one ho
theorem ownsRow_kept {S : Nat → Prop} {w w' : World} {e : TypeId} {sz : Nat} {v : Value} {n : Nat} {us : List Value} (h : w.ownsRow 0 e sz v n us) (hk : Kept S w w') (hb : ∀ b, v.ownBlock = some b → S b) : w'.ownsRow 0 e sz v n us := by
  refine ⟨h.1, ?_⟩
  rcases h.2 with hn | ⟨g, cap, cur, rfl, hb', hg, rest⟩
  · exact .inl hn
  · exact .inr ⟨g, cap, cur, rfl, hb', (hk.block g (Array.getElem?_eq_some_iff.1 hg).1 (hb g rfl)).trans hg, rest⟩
theorem Rep.kept {P : Program} {S T : Nat → Prop} {w w' : World} {bs : List Nat} {u : Value} {x : AV} (h : Rep P S w bs u x) (hk : Kept T w w') (hS : ∀ k, k < w.heap.size → S k → T k) (hb : ∀ b ∈ bs, T b) : Rep P S w' bs u x := by
  induction h with
  | any h => exact .any h
  | v h => exact .v h
  | sln h1 h2 => exact .sln h1 h2
  | ro h1 h2 hs hr hl hc ih => exact .ro h1 h2 hs (hr.kept (hk.mono hS)) hl fun i u x hu hx => ih i u x hu hx (by simp)
  | rof h2 hs hr hl hc ih => exact .rof h2 hs (hr.kept (hk.mono hS)) hl fun i u x hu hx => ih i u x hu hx (by simp)
  | rop hr hl hc ih => exact .rop (hr.kept (hk.mono hS)) hl fun i u x hu hx => ih i u x hu hx (by simp)
  | clo hl hc ih => exact .clo hl fun i u x hu hx => ih i u x hu hx (by simp)
  | own hi hs ho hl hbl hc ih =>
    refine .own hi hs (ownsRow_kept ho hk fun b h => hb b (by simp [h])) hl hbl fun i u x bs hu hx hbs => ih i u x bs hu hx hbs fun b hm => hb b ?_
    exact List.mem_append_right _ (List.mem_flatten.2 ⟨bs, List.mem_of_getElem? hbs, hm⟩)
  | om ht he K hk' h hn =>
    refine .om ht he K hk' ?_ hn
    obtain ⟨es, clock, h1, h2⟩ := h
    exact ⟨es, clock, (hk.block _ (Array.getElem?_eq_some_iff.1 h1).1 (hb _ (by simp))).trans h1, h2⟩
  | nm h ih => exact .nm (ih hb)
  | byt hg hf hc ht ho h1 h2 => exact .byt ((hk.block _ (Array.getElem?_eq_some_iff.1 hg).1 (hb _ (by simp))).trans hg) hf hc ht ho h1 h2
theorem Rep.mono {P : Program} {S S' : Nat → Prop} {w : World} {bs : List Nat} {u : Value} {x : AV} (h : Rep P S w bs u x) (hs : ∀ k, k < w.heap.size → S k → S' k) : Rep P S' w bs u x := by
  induction h with
  | any h => exact .any h
  | v h => exact .v h
  | sln h1 h2 => exact .sln h1 h2
  | ro h1 h2 hz hr hl hc ih => exact .ro h1 h2 hz (hr.mono hs) hl ih
  | rof h2 hz hr hl hc ih => exact .rof h2 hz (hr.mono hs) hl ih
  | rop hr hl hc ih => exact .rop (hr.mono hs) hl ih
  | clo hl hc ih => exact .clo hl ih
  | own hi hz ho hl hbl hc ih => exact .own hi hz ho hl hbl ih
  | om ht he K hk h hn => exact .om ht he K hk h hn
  | nm h ih => exact .nm ih
  | byt hg hf hc ht ho h1 h2 => exact .byt hg hf hc ht ho h1 h2
theorem Rep.v_inv {P : Program} {S : Nat → Prop} {w : World} {bs : List Nat} {u x : Value} (h : Rep P S w bs u (.v x)) : u = x ∧ bs = [] ∧ u.oneCell' = true := by
  cases h with
  | v h => exact ⟨rfl, rfl, h⟩
theorem Rep.any_inv {P : Program} {S : Nat → Prop} {w : World} {bs : List Nat} {u : Value} (h : Rep P S w bs u .any) : bs = [] ∧ u.oneCell' = true := by
  cases h with
  | any h => exact ⟨rfl, h⟩
theorem Rep.ro_inv {P : Program} {S : Nat → Prop} {w : World} {bs : List Nat} {u : Value} {es : List (List AV)} (h : Rep P S w bs u (.ro es)) : bs = [] ∧ ∃ A c sz us, u = .slice A es.length c ∧ es.length ≤ c ∧ c ≤ maxLen ∧ (∀ e ∈ es, e.length = sz) ∧ Rd S w A us ∧ us.length = es.flatten.length ∧ ∀ (i : Nat) (u : Value) (x : AV), us[i]? = some u → es.flatten[i]? = some x → Rep P S w [] u x := by
  cases h with
  | ro h1 h2 h3 h4 h5 h6 => exact ⟨rfl, _, _, _, _, rfl, h1, h2, h3, h4, h5, h6⟩
theorem Rep.rof_inv {P : Program} {S : Nat → Prop} {w : World} {bs : List Nat} {u : Value} {es : List (List AV)} (h : Rep P S w bs u (.rof es)) : bs = [] ∧ ∃ A sz us, u = .slice A es.length es.length ∧ es.length ≤ maxLen ∧ (∀ e ∈ es, e.length = sz) ∧ Rd S w A us ∧ us.length = es.flatten.length ∧ ∀ (i : Nat) (u : Value) (x : AV), us[i]? = some u → es.flatten[i]? = some x → Rep P S w [] u x := by
  cases h with
  | rof h2 h3 h4 h5 h6 => exact ⟨rfl, _, _, _, rfl, h2, h3, h4, h5, h6⟩
theorem Rep.ro_of_rof {P : Program} {S : Nat → Prop} {w : World} {bs : List Nat} {u : Value} {es : List (List AV)} (h : Rep P S w bs u (.rof es)) : Rep P S w bs u (.ro es) := by
  obtain ⟨rfl, A, sz, us, rfl, h2, h3, h4, h5, h6⟩ := h.rof_inv
  exact .ro (Nat.le_refl _) h2 h3 h4 h5 h6
theorem Rep.rop_inv {P : Program} {S : Nat → Prop} {w : World} {bs : List Nat} {u : Value} {cs : List AV} (h : Rep P S w bs u (.rop cs)) : bs = [] ∧ ∃ A us, u = .pointer (some A) ∧ Rd S w (some A) us ∧ us.length = cs.length ∧ ∀ (i : Nat) (u : Value) (x : AV), us[i]? = some u → cs[i]? = some x → Rep P S w [] u x := by
  cases h with
  | rop h1 h2 h3 => exact ⟨rfl, _, _, rfl, h1, h2, h3⟩
theorem Rep.sln_inv {P : Program} {S : Nat → Prop} {w : World} {bs : List Nat} {u : Value} {n : Nat} (h : Rep P S w bs u (.sln n)) : bs = [] ∧ ∃ A c, u = .slice A n c ∧ n ≤ c ∧ c ≤ maxLen := by
  cases h with
  | sln h1 h2 => exact ⟨rfl, _, _, rfl, h1, h2⟩
theorem Rep.own_inv {P : Program} {S : Nat → Prop} {w : World} {bs : List Nat} {v : Value} {e : TypeId} {es : List (List AV)} (h : Rep P S w bs v (.own e es)) : ∃ (us : List Value) (sz : Nat) (bss : List (List Nat)), bs = v.ownBlock.toList ++ bss.flatten ∧ sizeIs P e sz ∧ (∀ x ∈ es, x.length = sz) ∧ w.ownsRow 0 e sz v es.length us ∧ us.length = es.flatten.length ∧ bss.length = us.length ∧ ∀ (i : Nat) (u : Value) (x : AV) (bs : List Nat), us[i]? = some u → es.flatten[i]? = some x → bss[i]? = some bs → Rep P S w bs u x := by
  cases h with
  | own h1 h2 h3 h4 h5 h6 => exact ⟨_, _, _, rfl, h1, h2, h3, h4, h5, h6⟩
theorem Rep.lt {P : Program} {S : Nat → Prop} {w : World} {bs : List Nat} {u : Value} {x : AV} (h : Rep P S w bs u x) : ∀ b ∈ bs, b < w.heap.size := by
  induction h with
  | own hi hz ho hl hbl hc ih =>
    intro b hb
    rcases List.mem_append.1 hb with h | h
    · exact (ho.lt b (by simpa [Option.mem_toList] using h)).2
    · obtain ⟨bs, h1, h2⟩ := List.mem_flatten.1 h
      obtain ⟨i, hi, rfl⟩ := List.getElem_of_mem h1
      have hiu := hbl ▸ hi
      exact ih i _ _ _ (List.getElem?_eq_getElem hiu) (List.getElem?_eq_getElem (hl ▸ hiu)) (List.getElem?_eq_getElem hi) b h2
  | nm h ih => exact ih
  | byt hg hf hc ht ho h1 h2 =>
    intro b hb
    obtain rfl : b = _ := by simpa using hb
    exact (Array.getElem?_eq_some_iff.1 hg).1
  | om ht he K hk h hn =>
    intro b hb
    obtain rfl : b = _ := by simpa using hb
    exact h.lt
  | _ => intro b hb; simp at hb

/-! ### The state -/

structure Sl where
  slots : List (Nat × AV)
  ep : Nat

/-- What stays fixed while a function runs: the program; what may be read for good; the blocks and the slots that came in; the world at the start. -/
structure Cx where
  P : Program
  S0 : Nat → Prop
  own0 : List Nat
  v0 : List Value
  w0 : World

/-- How part of a slice that lies at v is spelled. -/
def SubS (sz : Nat) (v : Value) (off len : Nat) (u : Value) : Prop :=
  ∃ A n cap, v = .slice A n cap ∧ off + len ≤ n ∧ n ≤ cap ∧ cap ≤ maxLen ∧ ((off = 0 ∧ u = .slice A len cap) ∨
    (∃ A', 0 < off ∧ u = .slice A' len (cap - off) ∧ (0 < len → ∃ g, A = some ⟨g, 0, none⟩ ∧ A' = some ⟨g, off * sz, none⟩)))

def RefOK (P : Program) (S : Nat → Prop) (w : World) (T : Sl) (vals : List Value) (u : Value) : AV → Prop
  | .sl r k off len => k < T.ep ∧ u.oneCell' = true ∧ ∀ e es v sz, T.slots[r]? = some (k, .own e es) → vals[r]? = some v → sizeIs P e sz → off + len ≤ es.length ∧ SubS sz v off len u
  | .ptr r k i j => k < T.ep ∧ u.oneCell' = true ∧ ∀ e es v sz, T.slots[r]? = some (k, .own e es) → vals[r]? = some v → sizeIs P e sz → i < es.length ∧ ∃ g n cap, v = .slice (some ⟨g, 0, none⟩) n cap ∧ u = .pointer (some ⟨g, i * sz + j, none⟩)
  | .mp r k => k < T.ep ∧ u.oneCell' = true ∧ ∀ b ks v, T.slots[r]? = some (k, .om b ks) → vals[r]? = some v → u = v
  | .nm _ _ _ => u.oneCell' = true
  | .byt _ _ _ => u.oneCell' = true
  | .om _ _ => u.oneCell' = true
  | x => Rep P S w [] u x

/-- Two lists, side by side. -/
def RL {α β : Type} (R : α → β → Prop) (us : List α) (xs : List β) : Prop := us.length = xs.length ∧ ∀ (i : Nat) (u : α) (x : β), us[i]? = some u → xs[i]? = some x → R u x
theorem RL.mono {α β : Type} {R R' : α → β → Prop} {us : List α} {xs : List β} (h : RL R us xs) (hr : ∀ u x, R u x → R' u x) : RL R' us xs := ⟨h.1, fun i u x hu hx => hr _ _ (h.2 i u x hu hx)⟩
theorem RL.nil {α β : Type} {R : α → β → Prop} : RL R [] [] := ⟨rfl, fun i u x h => by simp at h⟩
theorem RL.cons {α β : Type} {R : α → β → Prop} {u : α} {x : β} {us : List α} {xs : List β} (h : R u x) (t : RL R us xs) : RL R (u :: us) (x :: xs) :=
  ⟨by simp [t.1], fun i a b ha hb => by
    cases i with
    | zero => simp at ha hb; subst ha; subst hb; exact h
    | succ i => exact t.2 i a b (by simpa using ha) (by simpa using hb)⟩
theorem RL.nil_inv {α β : Type} {R : α → β → Prop} {us : List α} (h : RL R us []) : us = [] := List.eq_nil_of_length_eq_zero h.1
theorem RL.cons_inv {α β : Type} {R : α → β → Prop} {us : List α} {x : β} {xs : List β} (h : RL R us (x :: xs)) : ∃ u us', us = u :: us' ∧ R u x ∧ RL R us' xs := by
  cases us with
  | nil => have := h.1; simp at this
  | cons u us =>
    refine ⟨u, us, rfl, h.2 0 u x rfl rfl, by have := h.1; simpa using this, fun i a b ha hb => h.2 (i + 1) a b (by simpa using ha) (by simpa using hb)⟩
theorem RL.at_ {α β : Type} {R : α → β → Prop} {us : List α} {xs : List β} (h : RL R us xs) {i : Nat} {x : β} (hx : xs[i]? = some x) : ∃ u, us[i]? = some u ∧ R u x := by
  have hi : i < us.length := by have := (List.getElem?_eq_some_iff.1 hx).1; rw [h.1]; exact this
  exact ⟨us[i], List.getElem?_eq_getElem hi, h.2 i _ x (List.getElem?_eq_getElem hi) hx⟩
theorem RL.part {α β : Type} {R : α → β → Prop} {us : List α} {xs : List β} (h : RL R us xs) (k n : Nat) : RL R ((us.drop k).take n) ((xs.drop k).take n) := by
  refine ⟨by simp [h.1], fun i u x hu hx => ?_⟩
  rw [List.getElem?_take] at hu hx
  split at hu
  · rw [if_pos (by assumption)] at hx
    rw [List.getElem?_drop] at hu hx
    exact h.2 _ u x hu hx
  · cases hu
theorem RL.append {α β : Type} {R : α → β → Prop} {us us' : List α} {xs xs' : List β} (h : RL R us xs) (h' : RL R us' xs') : RL R (us ++ us') (xs ++ xs') := by
  refine ⟨by simp [h.1, h'.1], fun i u x hu hx => ?_⟩
  by_cases hi : i < us.length
  · rw [List.getElem?_append_left hi] at hu
    rw [List.getElem?_append_left (by rw [← h.1]; exact hi)] at hx
    exact h.2 i u x hu hx
  · rw [List.getElem?_append_right (by omega)] at hu
    rw [List.getElem?_append_right (by rw [← h.1]; omega), ← h.1] at hx
    exact h'.2 _ u x hu hx

def AggOK (P : Program) (S : Nat → Prop) (w : World) (T : Sl) (vals : List Value) (u : Value) : AV → Prop
  | .any => True
  | .agg cs => ∃ us, u = .agg us ∧ RL (RefOK P S w T vals) us.toList cs
  | x => RefOK P S w T vals u x
def TmpOK (P : Program) (S : Nat → Prop) (w : World) (T : Sl) (vals : List Value) (u : Value) : AV → Prop
  | .tup xs => ∃ us, u = .tuple us ∧ RL (AggOK P S w T vals) us.toList xs
  | x => AggOK P S w T vals u x

/-- The memory. -/
structure Mem (C : Cx) (T : Sl) (S : Nat → Prop) (vals : List Value) (bss : List (List Nat)) (w : World) : Prop where
  kept : Kept (fun k => k ∉ C.own0) C.w0 w
  s0 : ∀ k, C.S0 k → S k
  sub : ∀ k, S k → C.S0 k ∨ k ∈ C.own0 ∨ C.w0.heap.size ≤ k
  lt : ∀ k, S k → k < w.heap.size
  nv : vals.length = T.slots.length
  nb : bss.length = T.slots.length
  rep : ∀ (r k : Nat) (x : AV) (v : Value) (bs : List Nat), T.slots[r]? = some (k, x) → vals[r]? = some v → bss[r]? = some bs → Rep C.P S w bs v x
  nodup : ∀ (r : Nat) (bs : List Nat), bss[r]? = some bs → bs.Nodup
  disj : ∀ (r r' : Nat) (bs bs' : List Nat), r ≠ r' → bss[r]? = some bs → bss[r']? = some bs' → ∀ b ∈ bs, b ∉ bs'
  apart : ∀ (r : Nat) (bs : List Nat), bss[r]? = some bs → ∀ b ∈ bs, ¬ S b
  mine : ∀ (r : Nat) (bs : List Nat), bss[r]? = some bs → ∀ b ∈ bs, b ∈ C.own0 ∨ C.w0.heap.size ≤ b
  root : ∀ (r : Nat) (x : AV), r < C.v0.length → T.slots[r]? = some (0, x) → vals[r]? = C.v0[r]?
  ver : ∀ (r k : Nat) (x : AV), T.slots[r]? = some (k, x) → k < T.ep
  pos : 0 < T.ep

theorem RefOK.kept {P : Program} {S S' K : Nat → Prop} {w w' : World} {T : Sl} {vals : List Value} {u : Value} {x : AV} (h : RefOK P S w T vals u x) (hk : Kept K w w') (hK : ∀ k, k < w.heap.size → S k → K k) (hS : ∀ k, S k → S' k) : RefOK P S' w' T vals u x := by
  have key : ∀ x, Rep P S w [] u x → Rep P S' w' [] u x := fun x h => (h.kept hk hK (by simp)).mono fun k _ => hS k
  cases x with
  | sl r k off len => exact h
  | ptr r k i j => exact h
  | mp r k => exact h
  | nm => exact h
  | byt => exact h
  | om => exact h
  | _ => exact key _ h
theorem RefOK.one {P : Program} {S : Nat → Prop} {w : World} {T : Sl} {vals : List Value} {u : Value} {x : AV} (h : RefOK P S w T vals u x) : u.oneCell' = true := by
  cases x with
  | sl r k off len => exact h.2.1
  | ptr r k i j => exact h.2.1
  | mp r k => exact h.2.1
  | nm => exact h
  | byt => exact h
  | om => exact h
  | _ => exact Rep.one h
/-- What one state's references say the next state's say. -/
def Follows (P : Program) (S : Nat → Prop) (w : World) (T : Sl) (vals : List Value) (S' : Nat → Prop) (w' : World) (T' : Sl) (vals' : List Value) : Prop :=
  ∀ u x, RefOK P S w T vals u x → RefOK P S' w' T' vals' u x
theorem AggOK.follows {P : Program} {S S' : Nat → Prop} {w w' : World} {T T' : Sl} {vals vals' : List Value} (hf : Follows P S w T vals S' w' T' vals') {u : Value} {x : AV} (h : AggOK P S w T vals u x) : AggOK P S' w' T' vals' u x := by
  cases x with
  | any => trivial
  | agg cs => obtain ⟨us, e, r⟩ := h; exact ⟨us, e, r.mono fun u x => hf u x⟩
  | _ => simp only [TmpOK, AggOK] at h ⊢; exact hf u _ h
theorem TmpOK.follows {P : Program} {S S' : Nat → Prop} {w w' : World} {T T' : Sl} {vals vals' : List Value} (hf : Follows P S w T vals S' w' T' vals') {u : Value} {x : AV} (h : TmpOK P S w T vals u x) : TmpOK P S' w' T' vals' u x := by
  cases x with
  | tup xs => obtain ⟨us, e, r⟩ := h; exact ⟨us, e, r.mono fun u x => AggOK.follows hf⟩
  | any => exact trivial
  | agg cs => exact AggOK.follows hf (x := .agg cs) h
  | _ => simp only [TmpOK, AggOK] at h ⊢; exact hf u _ h
theorem Follows.refl {P : Program} {S : Nat → Prop} {w : World} {T : Sl} {vals : List Value} : Follows P S w T vals S w T vals := fun _ _ h => h
theorem Follows.kept {P : Program} {S S' K : Nat → Prop} {w w' : World} {T : Sl} {vals : List Value} (hk : Kept K w w') (hK : ∀ k, k < w.heap.size → S k → K k) (hS : ∀ k, S k → S' k) : Follows P S w T vals S' w' T vals := fun _ _ h => h.kept hk hK hS
theorem Rep.plain {P : Program} {S : Nat → Prop} {w : World} {bs : List Nat} {u : Value} {x : AV} (h : Rep P S w bs u x) (cs : List AV) : x ≠ .agg cs ∧ x ≠ .tup cs := by
  cases h <;> simp
theorem RefOK.tmp {P : Program} {S : Nat → Prop} {w : World} {T : Sl} {vals : List Value} {u : Value} {x : AV} (h : RefOK P S w T vals u x) : TmpOK P S w T vals u x := by
  cases x with
  | any => exact trivial
  | agg cs => exact absurd rfl (Rep.plain (show Rep P S w [] u (.agg cs) from h) cs).1
  | tup cs => exact absurd rfl (Rep.plain (show Rep P S w [] u (.tup cs) from h) cs).2
  | _ => exact h

/-! ### The judgement of one operation -/

def evA (env : Nat → AV) : Operand → AV
  | .tmp t => env t
  | .const x => if x.oneCell' then .v x else match x with | .agg cs => .agg (cs.toList.map .v) | _ => .any
  | .func f => .v (.func (.func f) #[] #[])
  | .global g => .v (.pointer (some ⟨g, 0, none⟩))

/-- Operation o, its operands as ev says and the slots T, yields x and leaves the slots T'. -/
def OpJ (C : Cx) (o : Oper) (ev : Operand → AV) (T : Sl) (x : AV) (T' : Sl) : Prop :=
  ∀ (a : Act) (w : World) (S : Nat → Prop) (vals : List Value) (bss : List (List Nat)), Mem C T S vals bss w → (∀ y ∈ o.op.operands, TmpOK C.P S w T vals (a.eval y) (ev y)) →
    ∀ (K : Act → World → Prop), (∀ v w' S' vals' bss', Mem C T' S' vals' bss' w' → Follows C.P S w T vals S' w' T' vals' → TmpOK C.P S' w' T' vals' v x → K (a.put o.dst v) w') →
      ∀ Q, o.wp C.P a w K Q

/-- .. of which the world takes no notice. -/
def OpP (C : Cx) (o : Oper) (ev : Operand → AV) (T : Sl) (x : AV) : Prop :=
  ∀ (a : Act) (w : World) (S : Nat → Prop) (vals : List Value) (bss : List (List Nat)), Mem C T S vals bss w → (∀ y ∈ o.op.operands, TmpOK C.P S w T vals (a.eval y) (ev y)) →
    ∃ v, (∀ w, (execOp a.eval o).run C.P w = .ok (.value v) w) ∧ TmpOK C.P S w T vals v x
theorem OpP.j {C : Cx} {o : Oper} {ev : Operand → AV} {T : Sl} {x : AV} (h : OpP C o ev T x) : OpJ C o ev T x T := by
  intro a w S vals bss hm ho K hK Q
  obtain ⟨v, hr, hx⟩ := h a w S vals bss hm ho
  unfold Oper.wp
  rw [hr w]
  exact hK v w S vals bss hm Follows.refl hx

structure Sta where
  env : Nat → AV
  T : Sl
  n : Nat

def St (C : Cx) (σ : Sta) (a : Act) (w : World) : Prop :=
  a.defers = [] ∧ a.tmps.size = σ.n ∧ ∃ S vals bss, Mem C σ.T S vals bss w ∧ ∀ t, t < σ.n → TmpOK C.P S w σ.T vals (a.tmps.getD t undef) (σ.env t)

def upd (env : Nat → AV) (d : Nat) (x : AV) : Nat → AV := fun t => if t = d then x else env t
def putE (env : Nat → AV) : Option Tmp → AV → (Nat → AV)
  | some d, x => upd env d x
  | none, _ => env

def hat (C : Cx) (Q : Exit → Sta → Prop) : Exit → Act → World → Prop := fun e a w => ∃ σ, St C σ a w ∧ Q e σ
def AW (C : Cx) (c : Code) (Q : Exit → Sta → Prop) (σ : Sta) : Prop := ∀ a w, St C σ a w → c.wp C.P (hat C Q) a w
def AWL (C : Cx) (ops : Array Oper) (Q : Exit → Sta → Prop) (l : List Oper) (σ : Sta) : Prop := ∀ a w, St C σ a w → wpList C.P ops (hat C Q) l a w

theorem Act.size_put (a : Act) (d : Option Tmp) (v : Value) : (a.put d v).tmps.size = a.tmps.size := by cases d <;> simp [Act.put]
theorem Act.defers_put (a : Act) (d : Option Tmp) (v : Value) : (a.put d v).defers = a.defers := by cases d <;> rfl
theorem Act.getD_put (a : Act) (d : Option Tmp) (v : Value) (t : Nat) : (a.put d v).tmps.getD t undef = if d = some t ∧ t < a.tmps.size then v else a.tmps.getD t undef := by
  cases d with
  | none => simp [Act.put]
  | some d =>
    by_cases h : d = t
    · subst h
      by_cases hlt : d < a.tmps.size <;> simp [Act.put, hlt]
    · simp [Act.put, h, Array.getElem?_setIfInBounds_ne h]
/-- Behind an operation. -/
theorem St.put {C : Cx} {σ : Sta} {a : Act} {w w' : World} {S S' : Nat → Prop} {vals vals' : List Value} {bss' : List (List Nat)} {T' : Sl} {d : Option Tmp} {v : Value} {x : AV}
    (hd : a.defers = []) (hn : a.tmps.size = σ.n) (he : ∀ t, t < σ.n → TmpOK C.P S w σ.T vals (a.tmps.getD t undef) (σ.env t))
    (hm : Mem C T' S' vals' bss' w') (hf : Follows C.P S w σ.T vals S' w' T' vals') (hx : TmpOK C.P S' w' T' vals' v x) : St C ⟨putE σ.env d x, T', σ.n⟩ (a.put d v) w' := by
  refine ⟨by rw [Act.defers_put, hd], by rw [Act.size_put, hn], S', vals', bss', hm, fun t ht => ?_⟩
  rw [Act.getD_put]
  cases d with
  | none => rw [if_neg (by simp)]; exact TmpOK.follows hf (he t ht)
  | some d =>
    by_cases h : d = t
    · subst h
      rw [if_pos ⟨rfl, by rw [hn]; exact ht⟩]
      simpa [putE, upd] using hx
    · rw [if_neg (fun h' => h (by simpa using h'.1))]
      have : (putE σ.env (some d) x) t = σ.env t := by simp [putE, upd]; intro h'; exact absurd h'.symm h
      show TmpOK C.P S' w' T' vals' (a.tmps.getD t undef) (putE σ.env (some d) x t)
      rw [this]
      exact TmpOK.follows hf (he t ht)
def noneBig : Operand → Nat → Bool
  | .tmp t, n => t < n
  | _, _ => true
def constOk : Operand → Bool
  | .const x => x.oneCell' || (match x with | .agg cs => cs.all (·.oneCell') | _ => false)
  | _ => true
theorem St.eval {C : Cx} {σ : Sta} {a : Act} {w : World} {S : Nat → Prop} {vals : List Value} (hn : a.tmps.size = σ.n) (he : ∀ t, t < σ.n → TmpOK C.P S w σ.T vals (a.tmps.getD t undef) (σ.env t))
    (y : Operand) (hy : noneBig y σ.n = true) (hc : constOk y = true) : TmpOK C.P S w σ.T vals (a.eval y) (evA σ.env y) := by
  cases y with
  | tmp t => exact he t (by simpa [noneBig] using hy)
  | const x =>
    simp only [evA, Act.eval]
    by_cases h1 : x.oneCell' = true
    · rw [if_pos h1]; exact Rep.v h1
    · rw [if_neg h1]
      simp only [constOk, Bool.or_eq_true, h1, false_or] at hc
      cases x with
      | agg cs =>
        refine ⟨cs, rfl, by simp, fun i u x hu hx => ?_⟩
        simp only [List.getElem?_map] at hx
        rw [hu] at hx
        simp at hx
        subst hx
        refine Rep.v ?_
        simp only [Array.all_eq_true_iff_forall_mem] at hc
        exact (hc.resolve_left (by simp)) u (Array.mem_toList_iff.1 (List.mem_of_getElem? hu))
      | _ => simp at hc
  | func f => exact Rep.v rfl
  | global g => exact Rep.v rfl
def callL (c : Call) : List Operand := (match c.callee with | .value f => [f] | .invoke r _ => [r] | .builtin _ => []) ++ c.args.toList
/-- The operands, as a list. -/
def opsL : Op → List Operand
  | .alloc _ | .ready _ | .waits _ => []
  | .move x | .assign x | .box _ x | .load _ x | .nilCheck x | .unOp _ _ x | .convert _ _ x | .sliceToArrayPointer _ x | .makeInterface _ x
  | .makeChan _ x | .fieldAddr _ x _ | .field _ x _ | .range _ x | .next x _ | .entry x | .typeAssert x _ _ _ | .extract x _ | .panic x | .recv _ x _ => [x]
  | .pick c a b => [c, a, b]
  | .build _ ps | .buildSlice _ _ ps => ps.toList.map (·.2)
  | .store _ a v | .binOp _ _ a v _ | .makeSlice _ a v | .indexAddr _ a v | .index _ a v | .lookup _ a v _ | .mapEntry _ a v | .send a v => [a, v]
  | .makeFunc _ first captured => first.toList ++ captured.toList
  | .makeMap _ r => r.toList
  | .slice _ x l h m => [x] ++ l.toList ++ h.toList ++ m.toList
  | .mapUpdate _ m k v | .entryStore _ m k v | .insert _ m k v => [m, k, v]
  | .call c | .go c | .defer c => callL c
  | .select cs _ => (cs.flatMap fun c => #[c.chan] ++ c.send.toArray).toList
theorem opsL_eq (o : Op) : o.operands.toList = opsL o := by
  cases o <;> simp [Op.operands, opsL, callL, Call.operands] <;> (first | rfl | (rename_i c; cases c.callee <;> simp) | skip)
def opsOk (o : Oper) (n : Nat) : Bool := (opsL o.op).all fun y => noneBig y n && constOk y
theorem AWL.nil {C : Cx} {ops : Array Oper} {Q : Exit → Sta → Prop} {σ : Sta} (h : Q .normal σ) : AWL C ops Q [] σ := fun a w hs => ⟨σ, hs, h⟩
theorem St.ops {C : Cx} {σ : Sta} {a : Act} {w : World} {S : Nat → Prop} {vals : List Value} (hn : a.tmps.size = σ.n) (he : ∀ t, t < σ.n → TmpOK C.P S w σ.T vals (a.tmps.getD t undef) (σ.env t)) {o : Oper} (ho : opsOk o σ.n = true) :
    ∀ y ∈ o.op.operands, TmpOK C.P S w σ.T vals (a.eval y) (evA σ.env y) := fun y hy => by
  have := List.all_eq_true.1 ho y (by rw [← opsL_eq]; exact Array.mem_toList_iff.2 hy)
  simp only [Bool.and_eq_true] at this
  exact St.eval hn he y this.1 this.2
theorem AWL.op {C : Cx} {ops : Array Oper} {Q : Exit → Sta → Prop} {o : Oper} {l : List Oper} {σ : Sta} {x : AV} {T' : Sl} (hg : o.guard = none) (ho : opsOk o σ.n = true) (hj : OpJ C o (evA σ.env) σ.T x T') (h : AWL C ops Q l ⟨putE σ.env o.dst x, T', σ.n⟩) : AWL C ops Q (o :: l) σ := by
  intro a w hs
  obtain ⟨hd, hn, S, vals, bss, hm, he⟩ := hs
  refine wpList_plain hg fun K hK => ?_
  exact hj a w S vals bss hm (St.ops hn he ho) K (fun v w' S' vals' bss' hm' hf hx => hK _ _ (h _ _ (St.put hd hn he hm' hf hx))) _
end Go.Proofs.Ytjgbbffcjbmjmaa
namespace Go.Proofs.Ytjgbbffcjbmjmaa
open Go.RowKit
set_option linter.unusedSimpArgs false
set_option linter.unusedVariables false

/-! ### Rules of the code -/
section
variable {C : Cx} {Q : Exit → Sta → Prop} {σ : Sta}
def thenE (next : Sta → Prop) (Q : Exit → Sta → Prop) : Exit → Sta → Prop
  | .normal, σ => next σ
  | e, σ => Q e σ
theorem AW.mono {c : Code} {Q' : Exit → Sta → Prop} (h : AW C c Q σ) (hq : ∀ e σ, Q e σ → Q' e σ) : AW C c Q' σ := fun a w hs =>
  wp_mono (h a w hs) fun e a w ⟨σ, h1, h2⟩ => ⟨σ, h1, hq _ _ h2⟩
theorem AW.seq {x y : Code} (h : AW C x (thenE (AW C y Q) Q) σ) : AW C (.seq x y) Q σ := fun a w hs =>
  wp_seq (wp_mono (h a w hs) fun e a w ⟨σ, h1, h2⟩ => by
    cases e with
    | normal => exact h2 a w h1
    | _ => exact ⟨σ, h1, h2⟩)
theorem AW.seq_k {x y : Code} (h : ∀ K : Sta → Prop, (∀ σ, AW C y Q σ → K σ) → AW C x (thenE K Q) σ) : AW C (.seq x y) Q σ := AW.seq (h _ fun _ h => h)
theorem AW.skip (h : Q .normal σ) : AW C .skip Q σ := fun a w hs => wp_skip ⟨σ, hs, h⟩
theorem AW.label {l : Nat} (h : Q .normal σ) : AW C (.label l) Q σ := fun a w hs => wp_label ⟨σ, hs, h⟩
theorem AW.exit {i : Nat} (h : Q (.exit i) σ) : AW C (.exit i) Q σ := fun a w hs => wp_exit ⟨σ, hs, h⟩
theorem AW.ret (h : Q .ret σ) : AW C .ret Q σ := fun a w hs => wp_ret ⟨σ, hs, h⟩
def inBlk (id : Nat) (Q : Exit → Sta → Prop) : Exit → Sta → Prop
  | .exit id', σ => if id' = id then Q .normal σ else Q (.exit id') σ
  | e, σ => Q e σ
theorem AW.block {i : Nat} {c : Code} (h : AW C c (inBlk i Q) σ) : AW C (.block i c) Q σ := fun a w hs =>
  wp_block (wp_mono (h a w hs) fun e a w ⟨σ, h1, h2⟩ => by
    cases e with
    | exit j =>
      simp only [inBlk] at h2
      simp only [Exit.inBlock]
      split at h2
      · rename_i hj; rw [if_pos hj]; exact ⟨σ, h1, h2⟩
      · rename_i hj; rw [if_neg hj]; exact ⟨σ, h1, h2⟩
    | _ => exact ⟨σ, h1, h2⟩)
theorem St.bool {a : Act} {w : World} (hs : St C σ a w) {c : Operand} {t : Bool} (hn : noneBig c σ.n = true) (hk : constOk c = true) (hc : evA σ.env c = .v (.bool t)) : a.eval c = .bool t := by
  obtain ⟨hd, hn', S, vals, bss, hm, he⟩ := hs
  have := St.eval hn' he c hn hk
  rw [hc] at this
  have h' : Rep C.P S w [] (a.eval c) (.v (.bool t)) := this
  exact h'.v_inv.1
theorem AW.cond {c : Operand} {x y : Code} {t : Bool} (hn : noneBig c σ.n = true) (hk : constOk c = true) (hc : evA σ.env c = .v (.bool t)) (ht : t = true → AW C x Q σ) (hf : t = false → AW C y Q σ) : AW C (.cond c x y) Q σ := fun a w hs =>
  wp_cond_split (hs.bool hn hk hc) (fun h => ht h a w hs) (fun h => hf h a w hs)
theorem AW.loop {c : Code} (I : Sta → Prop) (μ : Sta → Nat) (h0 : I σ) (round : ∀ σ, I σ → AW C c (thenE (fun σ' => I σ' ∧ μ σ' < μ σ) Q) σ) : AW C (.loop c) Q σ := by
  intro a w hs b k cs
  have key : ∀ n σ a w, μ σ = n → I σ → St C σ a w →
      ∃ e a' w', hat C Q e a' w' ∧ Arrives C.P (lone (b.at a (.code c :: .inLoop c :: k)) cs w) b k cs e a' w' := by
    intro n
    induction n using Nat.strongRecOn with
    | _ n ih =>
      intro σ a w hn hI hs
      obtain ⟨e, a₁, w₁, ⟨σ₁, hs₁, hq⟩, harr⟩ := round σ hI a w hs b (.inLoop c :: k) cs
      cases e with
      | normal =>
        obtain ⟨hI₁, hlt⟩ := hq
        obtain ⟨e₂, a₂, w₂, hq₂, harr₂⟩ := ih (μ σ₁) (hn ▸ hlt) σ₁ a₁ w₁ rfl hI₁ hs₁
        exact ⟨e₂, a₂, w₂, hq₂, .of_steps (Steps.trans harr (.one step_inLoop)) harr₂⟩
      | exit id => exact ⟨_, a₁, w₁, ⟨σ₁, hs₁, hq⟩, .pass (x := .inLoop c) rfl (fun _ _ => .inl (by simp)) harr⟩
      | goto l => exact ⟨_, a₁, w₁, ⟨σ₁, hs₁, hq⟩, .pass (x := .inLoop c) rfl (fun _ _ => .inl (by simp)) harr⟩
      | ret => exact ⟨_, a₁, w₁, ⟨σ₁, hs₁, hq⟩, .pass (x := .inLoop c) rfl (fun _ _ => .inl (by simp)) harr⟩
      | panic ch => exact ⟨_, a₁, w₁, ⟨σ₁, hs₁, hq⟩, .pass (x := .inLoop c) rfl (fun _ _ => .inl (by simp)) harr⟩
      | outgrown => exact ⟨_, a₁, w₁, ⟨σ₁, hs₁, hq⟩, .pass (x := .inLoop c) rfl (fun _ _ => .inl (by simp)) harr⟩
  obtain ⟨e, a', w', hq, harr⟩ := key _ σ a w rfl h0 hs
  exact ⟨e, a', w', hq, .of_steps (.one step_loop) harr⟩
/-- A region in the order of the text. -/
theorem AW.region {i : Nat} {l : List Oper} (h : AWL C l.toArray Q l σ) : AW C (.region i l.toArray false) Q σ := fun a w hs => wp_region_lit (h a w hs)
/-- The state may be known less well. -/
def Wk (σ σ' : Sta) : Prop := σ'.T = σ.T ∧ σ'.n = σ.n ∧ ∀ t, t < σ.n → σ'.env t = .any ∨ σ'.env t = σ.env t
theorem TmpOK.any_ {P : Program} {S : Nat → Prop} {w : World} {T : Sl} {vals : List Value} {u : Value} : TmpOK P S w T vals u .any := trivial
theorem AW.weak {c : Code} {σ' : Sta} (hw : Wk σ σ') (h : AW C c Q σ') : AW C c Q σ := fun a w ⟨hd, hn, S, vals, bss, hm, he⟩ => by
  obtain ⟨e1, e2, e3⟩ := hw
  refine h a w ⟨hd, by rw [e2]; exact hn, S, vals, bss, by rw [e1]; exact hm, fun t ht => ?_⟩
  rw [e2] at ht
  rw [e1]
  rcases e3 t ht with h0 | h0
  · rw [h0]; exact TmpOK.any_
  · rw [h0]; exact he t ht

/-! ### Guards -/
theorem AWL.guard_yes {ops : Array Oper} {o o' : Oper} {l : List Oper} {x : AV} {T' : Sl} {g d : Nat} {b : Bool} (hg : o.guard = some (g, b)) (ho' : ops[g]? = some o') (hd : o'.dst = some d) (hdn : d < σ.n) (hv : σ.env d = .v (.bool b))
    (ho : opsOk o σ.n = true) (hj : OpJ C o (evA σ.env) σ.T x T') (h : AWL C ops Q l ⟨putE σ.env o.dst x, T', σ.n⟩) : AWL C ops Q (o :: l) σ := by
  intro a w hs
  have hs' := hs
  obtain ⟨hd', hn, S, vals, bss, hm, he⟩ := hs
  have hb := hs'.bool (c := .tmp d) (t := b) (by simpa [noneBig] using hdn) rfl hv
  refine wpList_step fun K hK => ?_
  have hw : Region.wanted o (yielded ops a.tmps) = true := by
    have hlt : d < a.tmps.size := by rw [hn]; exact hdn
    simp [Act.eval, hlt] at hb
    simp [Region.wanted, hg, yielded, ho', hd, hlt, hb]
  rw [if_pos hw]
  exact hj a w S vals bss hm (St.ops hn he ho) K (fun v w' S' vals' bss' hm' hf hx => hK _ _ (h _ _ (St.put hd' hn he hm' hf hx))) _
theorem AWL.guard_no {ops : Array Oper} {o o' : Oper} {l : List Oper} {g d : Nat} {b : Bool} (hg : o.guard = some (g, !b)) (ho' : ops[g]? = some o') (hd : o'.dst = some d) (hdn : d < σ.n) (hv : σ.env d = .v (.bool b))
    (h : AWL C ops Q l ⟨putE σ.env o.dst .any, σ.T, σ.n⟩) : AWL C ops Q (o :: l) σ := by
  intro a w hs
  have hs' := hs
  obtain ⟨hd', hn, S, vals, bss, hm, he⟩ := hs
  have hb := hs'.bool (c := .tmp d) (t := b) (by simpa [noneBig] using hdn) rfl hv
  refine wpList_step fun K hK => ?_
  have hw : ¬ Region.wanted o (yielded ops a.tmps) = true := by
    have hlt : d < a.tmps.size := by rw [hn]; exact hdn
    simp [Act.eval, hlt] at hb
    simp [Region.wanted, hg, yielded, ho', hd, hlt, hb]
  rw [if_neg hw]
  exact hK _ _ (h _ _ (St.put hd' hn he hm Follows.refl TmpOK.any_))

/-! ### Regions that draw their order -/
def AWAny (C : Cx) (ops : Array Oper) (Q : Exit → Sta → Prop) (fuel : Nat) (listed : Array Bool) (σ : Sta) : Prop := ∀ a w, St C σ a w → wpAny C.P .any ops (hat C Q) fuel listed a w
theorem St.drew {a : Act} {w : World} (hs : St C σ a w) : St C σ a { w with drawn := w.drawn + 1 } := by
  obtain ⟨hd, hn, S, vals, bss, hm, he⟩ := hs
  have hk : Kept (fun _ => True) w w.drew := (Kept.refl _ _).drew
  refine ⟨hd, hn, S, vals, bss, ⟨hm.kept.drew, hm.s0, hm.sub, hm.lt, hm.nv, hm.nb, fun r k x v bs h1 h2 h3 => (hm.rep r k x v bs h1 h2 h3).kept hk (fun _ _ _ => trivial) (fun _ _ => trivial), hm.nodup, hm.disj, hm.apart, hm.mine, hm.root, hm.ver, hm.pos⟩, fun t ht => ?_⟩
  exact TmpOK.follows (Follows.kept hk (fun _ _ _ => trivial) fun _ h => h) (he t ht)
theorem AW.region_any {i : Nat} {ops : Array Oper} (hm : C.P.follows .mixedOrders = true) (h : AWAny C ops Q ops.size (Array.replicate ops.size false) σ) : AW C (.region i ops true) Q σ :=
  fun a w hs => wp_region_any hm (h a _ hs.drew)
theorem AWAny.done {ops : Array Oper} {listed : Array Bool} {fuel : Nat} (hr : Region.ready .any ops listed = []) (h : Q .normal σ) : AWAny C ops Q fuel listed σ := fun a w hs => wpAny_done hr ⟨σ, hs, h⟩ fuel
/-- Whichever of those that may come up comes up. -/
def AWOp (C : Cx) (ops : Array Oper) (Q : Exit → Sta → Prop) (i : Nat) (K : Sta → Prop) (σ : Sta) : Prop := ∀ a w, St C σ a w → ∀ K' : Act → World → Prop, (∀ σ' a' w', K σ' → St C σ' a' w' → K' a' w') → wpOp C.P ops (hat C Q) i K' a w
theorem AWAny.all {ops : Array Oper} {rs : List Nat} {fuel : Nat} {listed : Array Bool} (hr : Region.ready .any ops listed = rs) (hne : rs ≠ []) (h : ∀ i ∈ rs, AWOp C ops Q i (AWAny C ops Q fuel (listed.setIfInBounds i true)) σ) : AWAny C ops Q (fuel + 1) listed σ :=
  fun a w hs => wpAny_all hr hne fun i hi => h i hi a w hs _ fun σ' a' w' hk hs' => hk a' w' hs'
theorem AWOp.op {ops : Array Oper} {i : Nat} {o : Oper} {K : Sta → Prop} {x : AV} {T' : Sl} (hi : ops[i]? = some o) (hg : o.guard = none) (ho : opsOk o σ.n = true) (hj : OpJ C o (evA σ.env) σ.T x T') (h : K ⟨putE σ.env o.dst x, T', σ.n⟩) : AWOp C ops Q i K σ := by
  intro a w hs K' hK
  obtain ⟨hd, hn, S, vals, bss, hm, he⟩ := hs
  unfold wpOp
  simp only [hi, Region.wanted, hg, if_true]
  exact .inl (hj a w S vals bss hm (St.ops hn he ho) K' (fun v w' S' vals' bss' hm' hf hx => hK _ _ _ h (St.put hd hn he hm' hf hx)) _)
/-- A pure operation may be taken first. -/
theorem AWAny.take {ops : Array Oper} {i : Nat} {o : Oper} {x : AV} {fuel : Nat} {listed : Array Bool} (hi : ops[i]? = some o) (hs : Region.noSelect ops = true) (hf : Region.free .any ops listed i = true) (hr : (Region.ready .any ops listed).contains i = true)
    (hp : ∀ c σ, ¬ Q (.panic c) σ) (hg : o.guard = none) (ho : opsOk o σ.n = true) (hj : OpP C o (evA σ.env) σ.T x) (h : AWAny C ops Q fuel (listed.setIfInBounds i true) ⟨putE σ.env o.dst x, σ.T, σ.n⟩) : AWAny C ops Q (fuel + 1) listed σ := by
  intro a w hst
  obtain ⟨hd, hn, S, vals, bss, hm, he⟩ := hst
  obtain ⟨v, hv, hx⟩ := hj a w S vals bss hm (St.ops hn he ho)
  exact wpAny_take hi hs hf hr (fun c a w ⟨σ, _, hq⟩ => absurd hq (hp c σ)) (.inl ⟨by simp [Region.wanted, hg], hv⟩) (h _ _ (St.put hd hn he hm Follows.refl hx))
end
end Go.Proofs.Ytjgbbffcjbmjmaa
namespace Go.Proofs.Ytjgbbffcjbmjmaa
open Go.RowKit
set_option linter.unusedSimpArgs false
set_option linter.unusedVariables false

/-- An operation that only reads: it yields the same in every world in which nothing that was there has turned. -/
def OpR (C : Cx) (o : Oper) (ev : Operand → AV) (T : Sl) (x : AV) : Prop :=
  ∀ (a : Act) (w : World) (S : Nat → Prop) (vals : List Value) (bss : List (List Nat)), Mem C T S vals bss w → (∀ y ∈ o.op.operands, TmpOK C.P S w T vals (a.eval y) (ev y)) →
    ∃ v, (∀ w', Kept (fun _ => True) w w' → (execOp a.eval o).run C.P w' = .ok (.value v) w') ∧ TmpOK C.P S w T vals v x
theorem OpP.r {C : Cx} {o : Oper} {ev : Operand → AV} {T : Sl} {x : AV} (h : OpP C o ev T x) : OpR C o ev T x := fun a w S vals bss hm ho =>
  let ⟨v, hr, hx⟩ := h a w S vals bss hm ho
  ⟨v, fun w' _ => hr w', hx⟩
theorem OpR.j {C : Cx} {o : Oper} {ev : Operand → AV} {T : Sl} {x : AV} (h : OpR C o ev T x) : OpJ C o ev T x T := by
  intro a w S vals bss hm ho K hK Q
  obtain ⟨v, hr, hx⟩ := h a w S vals bss hm ho
  unfold Oper.wp
  rw [hr w (Kept.refl _ _)]
  exact hK v w S vals bss hm Follows.refl hx

/-! ### What a datum of the environment says of its value -/
section
variable {P : Program} {S : Nat → Prop} {w : World} {T : Sl} {vals : List Value} {u : Value}
theorem TmpOK.v {x : Value} (h : TmpOK P S w T vals u (.v x)) : u = x := (show Rep P S w [] u (.v x) from h).v_inv.1
theorem TmpOK.v_ {x : Value} (h : x.oneCell' = true) : TmpOK P S w T vals x (.v x) := Rep.v h
theorem TmpOK.ro {es : List (List AV)} (h : TmpOK P S w T vals u (.ro es)) : Rep P S w [] u (.ro es) := h
theorem TmpOK.agg {cs : List AV} (h : TmpOK P S w T vals u (.agg cs)) : ∃ us, u = .agg us ∧ RL (RefOK P S w T vals) us.toList cs := h
theorem AggOK.tmp {x : AV} (h : AggOK P S w T vals u x) : TmpOK P S w T vals u x := by
  cases x with
  | tup cs => exact absurd rfl (Rep.plain (show Rep P S w [] u (.tup cs) from h) cs).2
  | _ => exact h
end

section
variable {C : Cx} {o : Oper} {ev : Operand → AV} {T : Sl}

theorem op_move {y : Operand} {x : AV} (ho : o.op = .move y) (hx : ev y = x) : OpP C o ev T x := by
  intro a w S vals bss hm h
  have := h y (by simp [ho, Op.operands])
  rw [hx] at this
  exact ⟨a.eval y, fun w => by simp [execOp, ho], this⟩
theorem op_assign {y : Operand} {x : AV} (ho : o.op = .assign y) (hx : ev y = x) : OpP C o ev T x := by
  intro a w S vals bss hm h
  have := h y (by simp [ho, Op.operands])
  rw [hx] at this
  exact ⟨a.eval y, fun w => by simp [execOp, ho], this⟩
theorem op_pick {c p q : Operand} {b : Bool} {x : AV} (ho : o.op = .pick c p q) (hc : ev c = .v (.bool b)) (hx : (if b then ev p else ev q) = x) : OpP C o ev T x := by
  intro a w S vals bss hm h
  have h1 := h c (by simp [ho, Op.operands])
  rw [hc] at h1
  have e := h1.v
  cases b
  · have h2 := h q (by simp [ho, Op.operands])
    rw [show ev q = x from hx] at h2
    exact ⟨a.eval q, fun w => by simp [execOp, ho, e, asBool], h2⟩
  · have h2 := h p (by simp [ho, Op.operands])
    rw [show ev p = x from hx] at h2
    exact ⟨a.eval p, fun w => by simp [execOp, ho, e, asBool], h2⟩
theorem op_extract {y : Operand} {i : Nat} {xs : List AV} {x : AV} (ho : o.op = .extract y i) (hy : ev y = .tup xs) (hx : xs[i]? = some x) : OpP C o ev T x := by
  intro a w S vals bss hm h
  have h1 := h y (by simp [ho, Op.operands])
  rw [hy] at h1
  obtain ⟨us, e, r⟩ := h1
  obtain ⟨u, hu, hr⟩ := r.at_ hx
  refine ⟨u, fun w => ?_, hr.tmp⟩
  have hu' : us[i]? = some u := by simpa using hu
  simp [execOp, ho, e, Instr.extract, hu']
/-- An operator of two known values. -/
theorem op_bin {op : BinOp} {t yt : TypeId} {p q : Operand} {x y z : Value} (ho : o.op = .binOp op t p q yt) (hp : ev p = .v x) (hq : ev q = .v y)
    (hg : ∀ w, (eqGuard op t p q x y).run C.P w = .ok () w) (hr : ∀ w, (binOp op t x y).run C.P w = .ok z w) (hz : z.oneCell' = true) : OpP C o ev T (.v z) := by
  intro a w S vals bss hm h
  have h1 := h p (by simp [ho, Op.operands])
  have h2 := h q (by simp [ho, Op.operands])
  rw [hp] at h1
  rw [hq] at h2
  refine ⟨z, fun w => ?_, TmpOK.v_ hz⟩
  simp [execOp, ho, h1.v, h2.v, hg, hr]
theorem op_un {op : UnOp} {t : TypeId} {p : Operand} {x z : Value} (ho : o.op = .unOp op t p) (hp : ev p = .v x) (hr : ∀ w, (Op.unary op x).run C.P w = .ok z w) (hz : z.oneCell' = true) : OpP C o ev T (.v z) := by
  intro a w S vals bss hm h
  have h1 := h p (by simp [ho, Op.operands])
  rw [hp] at h1
  exact ⟨z, fun w => by simp [execOp, ho, h1.v, hr w], TmpOK.v_ hz⟩
theorem op_not {t : TypeId} {p : Operand} {b b' : Bool} (ho : o.op = .unOp .not t p) (hp : ev p = .v (.bool b)) (hb : (!b) = b') : OpP C o ev T (.v (.bool b')) :=
  op_un ho hp (fun w => by subst hb; rfl) rfl
theorem beq_dec (x y : Int) : (x == y) = decide (x = y) := by rw [Bool.eq_iff_iff]; simp
section ints
variable {t yt : TypeId} {p q : Operand} {k : IntKind} {x y z : Int}
theorem eqGuard_int (op : BinOp) (t : TypeId) (p q : Operand) (k : IntKind) (x y : Int) : ∀ (w : World), (eqGuard op t p q (.int k x) (.int k y)).run C.P w = .ok () w := by
  intro w; unfold eqGuard; cases op <;> simp
theorem op_add (ho : o.op = .binOp .add t p q yt) (hp : ev p = .v (.int k x)) (hq : ev q = .v (.int k y)) (hz : k.wrap (x + y) = z) : OpP C o ev T (.v (.int k z)) :=
  op_bin ho hp hq (eqGuard_int _ _ _ _ _ _ _) (fun w => by simp [binOp, Op.intArith, hz]) rfl
theorem op_sub (ho : o.op = .binOp .sub t p q yt) (hp : ev p = .v (.int k x)) (hq : ev q = .v (.int k y)) (hz : k.wrap (x - y) = z) : OpP C o ev T (.v (.int k z)) :=
  op_bin ho hp hq (eqGuard_int _ _ _ _ _ _ _) (fun w => by simp [binOp, Op.intArith, hz]) rfl
theorem op_mul (ho : o.op = .binOp .mul t p q yt) (hp : ev p = .v (.int k x)) (hq : ev q = .v (.int k y)) (hz : k.wrap (x * y) = z) : OpP C o ev T (.v (.int k z)) :=
  op_bin ho hp hq (eqGuard_int _ _ _ _ _ _ _) (fun w => by simp [binOp, Op.intArith, hz]) rfl
theorem op_quo (ho : o.op = .binOp .quo t p q yt) (hp : ev p = .v (.int k x)) (hq : ev q = .v (.int k y)) (h0 : y ≠ 0) (hz : k.wrap (x.tdiv y) = z) : OpP C o ev T (.v (.int k z)) :=
  op_bin ho hp hq (eqGuard_int _ _ _ _ _ _ _) (fun w => by simp [binOp, Op.intDiv, h0, hz]) rfl
theorem op_rem (ho : o.op = .binOp .rem t p q yt) (hp : ev p = .v (.int k x)) (hq : ev q = .v (.int k y)) (h0 : y ≠ 0) (hz : x.tmod y = z) : OpP C o ev T (.v (.int k z)) :=
  op_bin ho hp hq (eqGuard_int _ _ _ _ _ _ _) (fun w => by simp [binOp, Op.intDiv, h0, hz]) rfl
theorem op_lss (ho : o.op = .binOp .lss t p q yt) (hp : ev p = .v (.int k x)) (hq : ev q = .v (.int k y)) : OpP C o ev T (.v (.bool (decide (x < y)))) :=
  op_bin ho hp hq (eqGuard_int _ _ _ _ _ _ _) (fun w => by simp [binOp, Op.intCmp, beq_dec]) rfl
theorem op_leq (ho : o.op = .binOp .leq t p q yt) (hp : ev p = .v (.int k x)) (hq : ev q = .v (.int k y)) : OpP C o ev T (.v (.bool (decide (x ≤ y)))) :=
  op_bin ho hp hq (eqGuard_int _ _ _ _ _ _ _) (fun w => by simp [binOp, Op.intCmp, beq_dec]) rfl
theorem op_gtr (ho : o.op = .binOp .gtr t p q yt) (hp : ev p = .v (.int k x)) (hq : ev q = .v (.int k y)) : OpP C o ev T (.v (.bool (decide (x > y)))) :=
  op_bin ho hp hq (eqGuard_int _ _ _ _ _ _ _) (fun w => by simp [binOp, Op.intCmp, beq_dec]) rfl
theorem op_geq (ho : o.op = .binOp .geq t p q yt) (hp : ev p = .v (.int k x)) (hq : ev q = .v (.int k y)) : OpP C o ev T (.v (.bool (decide (x ≥ y)))) :=
  op_bin ho hp hq (eqGuard_int _ _ _ _ _ _ _) (fun w => by simp [binOp, Op.intCmp, beq_dec]) rfl
theorem op_eql (ho : o.op = .binOp .eql t p q yt) (hp : ev p = .v (.int k x)) (hq : ev q = .v (.int k y)) : OpP C o ev T (.v (.bool (decide (x = y)))) :=
  op_bin ho hp hq (eqGuard_int _ _ _ _ _ _ _) (fun w => by simp [binOp, Op.intCmp, beq_dec]) rfl
theorem op_neq (ho : o.op = .binOp .neq t p q yt) (hp : ev p = .v (.int k x)) (hq : ev q = .v (.int k y)) : OpP C o ev T (.v (.bool (!decide (x = y)))) :=
  op_bin ho hp hq (eqGuard_int _ _ _ _ _ _ _) (fun w => by simp [binOp, Op.intCmp, bne, beq_dec]) rfl
end ints
section strs
variable {t yt : TypeId} {p q : Operand} {x y : ByteArray}
theorem eqGuard_str (op : BinOp) (t : TypeId) (p q : Operand) (x y : ByteArray) : ∀ (w : World), (eqGuard op t p q (.string x) (.string y)).run C.P w = .ok () w := by
  intro w; unfold eqGuard; cases op <;> simp
theorem op_seql (ho : o.op = .binOp .eql t p q yt) (hp : ev p = .v (.string x)) (hq : ev q = .v (.string y)) : OpP C o ev T (.v (.bool (x.toList == y.toList))) :=
  op_bin ho hp hq (eqGuard_str _ _ _ _ _ _) (fun w => by simp [binOp, Op.stringOp]) rfl
theorem op_sneq (ho : o.op = .binOp .neq t p q yt) (hp : ev p = .v (.string x)) (hq : ev q = .v (.string y)) : OpP C o ev T (.v (.bool !(x.toList == y.toList))) :=
  op_bin ho hp hq (eqGuard_str _ _ _ _ _ _) (fun w => by simp [binOp, Op.stringOp]) rfl
end strs
/-- An operator of two known structs. -/
theorem op_bin_agg {op : BinOp} {t yt : TypeId} {p q : Operand} {xs ys : List Value} {z : Value} (ho : o.op = .binOp op t p q yt) (hp : ev p = .agg (xs.map .v)) (hq : ev q = .agg (ys.map .v))
    (hg : ∀ w, (eqGuard op t p q (.agg xs.toArray) (.agg ys.toArray)).run C.P w = .ok () w) (hr : ∀ w, (binOp op t (.agg xs.toArray) (.agg ys.toArray)).run C.P w = .ok z w) (hz : z.oneCell' = true) : OpP C o ev T (.v z) := by
  intro a w S vals bss hm h
  have h1 := h p (by simp [ho, Op.operands])
  have h2 := h q (by simp [ho, Op.operands])
  rw [hp] at h1
  rw [hq] at h2
  have key : ∀ (u : Value) (xs : List Value), TmpOK C.P S w T vals u (.agg (xs.map .v)) → u = .agg xs.toArray := by
    rintro u xs ⟨us, rfl, r⟩
    congr 1
    apply Array.toList_inj.1
    apply List.ext_getElem?
    intro i
    have hl := r.1
    rw [List.length_map] at hl
    by_cases hi : i < xs.length
    · have := r.2 i us.toList[i] (.v xs[i]) (List.getElem?_eq_getElem (by omega)) (by simp [hi])
      have e : us.toList[i] = xs[i] := (show Rep C.P S w [] _ (.v _) from this).v_inv.1
      rw [List.getElem?_eq_getElem (by omega), e]
      simp [hi]
    · rw [List.getElem?_eq_none (by omega)]
      simp; omega
  refine ⟨z, fun w => ?_, TmpOK.v_ hz⟩
  simp [execOp, ho, key _ _ h1, key _ _ h2, hg, hr]
/-- len of a slice. -/
theorem lenOf_slice {P : Program} {S : Nat → Prop} {w : World} {vals : List Value} {u : Value} {x : AV} {n : Nat} (h : TmpOK P S w T vals u x)
    (hx : x = .sln n ∨ (∃ es, x = .ro es ∧ es.length = n) ∨ (∃ es, x = .rof es ∧ es.length = n) ∨ (n = 0 ∧ x = .v (.slice none 0 0))) : ∃ A c, u = .slice A n c ∧ n ≤ c ∧ c ≤ maxLen := by
  rcases hx with rfl | ⟨es, rfl, rfl⟩ | ⟨es, rfl, rfl⟩ | ⟨rfl, rfl⟩
  · obtain ⟨-, A, c, e, h1, h2⟩ := (show Rep P S w [] u (.sln n) from h).sln_inv
    exact ⟨A, c, e, h1, h2⟩
  · obtain ⟨-, A, c, _, _, e, h1, h2, _⟩ := h.ro.ro_inv
    exact ⟨A, c, e, h1, h2⟩
  · obtain ⟨-, A, _, _, e, h1, _⟩ := (show Rep P S w [] u (.rof es) from h).rof_inv
    exact ⟨A, _, e, Nat.le_refl _, h1⟩
  · exact ⟨none, 0, h.v, Nat.le_refl _, by unfold maxLen; omega⟩
end
end Go.Proofs.Ytjgbbffcjbmjmaa
namespace Go.Proofs.Ytjgbbffcjbmjmaa
open Go.RowKit
set_option linter.unusedSimpArgs false
set_option linter.unusedVariables false

/-- Is the type a struct's or an array's? -/
def aggB (P : Program) (t : TypeId) : Option Bool := match P.underlying t with | some (.struct _) => some true | some (.array ..) => some true | some _ => some false | none => none
theorem run_isAgg {P : Program} {t : TypeId} {b : Bool} (h : aggB P t = some b) (w : World) : (isAgg t).run P w = .ok b w := by
  unfold aggB at h
  unfold isAgg
  cases hu : P.underlying t with
  | none => rw [hu] at h; cases h
  | some d =>
    rw [hu] at h
    cases d <;> simp at h <;> subst h <;> simp [run_underlying hu]
theorem run_sizeOf {P : Program} {t : TypeId} {n : Nat} (h : sizeIs P t n) (w : World) : (sizeOf t).run P w = .ok n w := by
  unfold sizeIs at h
  cases hi : P.info? t with
  | none => rw [hi] at h; cases h
  | some i => rw [hi] at h; simp at h; simp [sizeOf, typeInfo, hi, h]
/-- Field f of struct type t: its offset, its type. -/
def fieldIs (P : Program) (t : TypeId) (f off : Nat) (ft : TypeId) : Prop := ∃ fs fd, P.underlying t = some (.struct fs) ∧ fs[f]? = some fd ∧ fd.offset = off ∧ fd.type = ft
theorem add_off (g o n : Nat) : (⟨g, o, none⟩ : Addr).add n = ⟨g, o + n, none⟩ := by
  unfold Addr.add
  by_cases h : n = 0
  · subst h; simp
  · simp [h]
theorem run_fieldAt {P : Program} {t : TypeId} {f off n : Nat} {ft : TypeId} (hf : fieldIs P t f off ft) (hs : sizeIs P ft n) (hn : n ≠ 0) (A : Addr) (w : World) : (Instr.fieldAt t (.pointer (some A)) f).run P w = .ok (.pointer (some (A.add off))) w := by
  obtain ⟨fs, fd, h1, h2, rfl, rfl⟩ := hf
  simp [Instr.fieldAt, run_underlying h1, h2, Instr.sureAddr, fieldPlace, run_sizeOf hs, hn]
theorem run_loadVar {P : Program} {t : TypeId} {n : Nat} (ha : aggB P t = some true) (hs : sizeIs P t n) (A : Addr) (us : List Value) (hl : us.length = n) (w : World) (hc : ∀ j u, us[j]? = some u → w.cell? (A.add j) = some u) : (loadVar t A).run P w = .ok (.agg us.toArray) w := by
  have := run_loadCells_list (P := P) w A us hc
  simp [loadVar, run_isAgg ha, run_sizeOf hs, ← hl, this]
theorem run_loadOne {P : Program} {t : TypeId} (ha : aggB P t = some false) (A : Addr) (u : Value) (w : World) (hc : w.cell? A = some u) : (loadVar t A).run P w = .ok u w := by
  simp [loadVar, run_isAgg ha, hc]

/-- The cells of a list of elements, all of one size. -/
theorem flat_at {sz : Nat} : ∀ {es : List (List AV)}, (∀ e ∈ es, e.length = sz) → ∀ {i : Nat} {row : List AV}, es[i]? = some row → ∀ {j : Nat} {x : AV}, row[j]? = some x → es.flatten[i * sz + j]? = some x
  | [], _, i, row, h, _, _, _ => by simp at h
  | e :: es, hs, i, row, h, j, x, hx => by
    have he := hs e (by simp)
    cases i with
    | zero =>
      simp at h
      subst h
      have : j < e.length := (List.getElem?_eq_some_iff.1 hx).1
      rw [Nat.zero_mul, Nat.zero_add, List.flatten_cons, List.getElem?_append_left this]
      exact hx
    | succ i =>
      have := flat_at (es := es) (fun e h => hs e (by simp [h])) (i := i) (by simpa using h) hx
      rw [List.flatten_cons, List.getElem?_append_right (by rw [he, Nat.add_mul]; omega), he]
      have e2 : (i + 1) * sz + j - sz = i * sz + j := by rw [Nat.add_mul]; omega
      rw [e2]; exact this
theorem flat_len {sz : Nat} : ∀ {es : List (List AV)}, (∀ e ∈ es, e.length = sz) → es.flatten.length = es.length * sz
  | [], _ => by simp
  | e :: es, hs => by
    rw [List.flatten_cons, List.length_append, flat_len (es := es) (fun e h => hs e (by simp [h])), hs e (by simp), List.length_cons, Nat.add_mul]; omega
theorem flat_cut {sz : Nat} : ∀ {es : List (List AV)}, (∀ e ∈ es, e.length = sz) → ∀ k n, ((es.drop k).take n).flatten = (es.flatten.drop (k * sz)).take (n * sz) := by
  intro es hs k n
  have hd : ∀ (es : List (List AV)) k, (∀ e ∈ es, e.length = sz) → (es.drop k).flatten = es.flatten.drop (k * sz) := by
    intro es
    induction es with
    | nil => intro k _; simp
    | cons e es ih =>
      intro k hs
      cases k with
      | zero => simp
      | succ k =>
        have he := hs e (by simp)
        have h0 : List.drop ((k + 1) * sz) e = [] := List.drop_eq_nil_of_le (by rw [he, Nat.add_mul]; omega)
        rw [List.drop_succ_cons, ih k (fun e h => hs e (by simp [h])), List.flatten_cons, List.drop_append, h0, List.nil_append, he]
        congr 1
        rw [Nat.add_mul]; omega
  have ht : ∀ (es : List (List AV)) n, (∀ e ∈ es, e.length = sz) → (es.take n).flatten = es.flatten.take (n * sz) := by
    intro es
    induction es with
    | nil => intro k _; simp
    | cons e es ih =>
      intro k hs
      cases k with
      | zero => simp
      | succ k =>
        have he := hs e (by simp)
        have h0 : List.take ((k + 1) * sz) e = e := List.take_of_length_le (by rw [he, Nat.add_mul]; omega)
        rw [List.take_succ_cons, List.flatten_cons, ih k (fun e h => hs e (by simp [h])), List.flatten_cons, List.take_append, he, h0]
        congr 2
        rw [Nat.add_mul]; omega
  rw [ht _ n (fun e h => hs e (List.mem_of_mem_drop h)), hd _ k hs]

/-- What a load of a cell gives. -/
def ldc : AV → AV
  | .own _ es => .sln es.length
  | .om _ _ => .any
  | .nm _ _ _ => .any
  | .byt _ _ _ => .any
  | x => x
theorem Rep.ldc {P : Program} {S : Nat → Prop} {w : World} {bs : List Nat} {u : Value} {x : AV} (h : Rep P S w bs u x) : Rep P S w [] u (ldc x) := by
  cases h with
  | any h => exact .any h
  | v h => exact .v h
  | sln h1 h2 => exact .sln h1 h2
  | ro h1 h2 h3 h4 h5 h6 => exact .ro h1 h2 h3 h4 h5 h6
  | rof h2 h3 h4 h5 h6 => exact .rof h2 h3 h4 h5 h6
  | rop h1 h2 h3 => exact .rop h1 h2 h3
  | clo h1 h2 => exact .clo h1 h2
  | nm h => exact .any (Rep.one h)
  | byt => exact .any rfl
  | om => exact .any rfl
  | own hi hs ho hl hb hc =>
    rename_i e es us sz bss
    rcases ho.2 with ⟨rfl, h0⟩ | ⟨g, cap, cur, rfl, -, -, h1, h2, -⟩
    · show Rep P S w [] _ (.sln es.length)
      rw [h0]; exact .sln (Nat.le_refl _) (by unfold maxLen; omega)
    · exact .sln h1 h2
theorem Rep.noref {P : Program} {S : Nat → Prop} {w : World} {bs : List Nat} {u : Value} {x : AV} (h : Rep P S w bs u x) (r k i j : Nat) : x ≠ .sl r k i j ∧ x ≠ .ptr r k i j ∧ x ≠ .mp r k := by
  cases h <;> simp
theorem Rep.ref {P : Program} {S : Nat → Prop} {w : World} {T : Sl} {vals : List Value} {u : Value} {x : AV} (h : Rep P S w [] u x) : RefOK P S w T vals u x := by
  cases x with
  | sl r k i j => exact absurd rfl (h.noref r k i j).1
  | ptr r k i j => exact absurd rfl (h.noref r k i j).2.1
  | mp r k => exact absurd rfl (h.noref r k 0 0).2.2
  | nm => exact Rep.one h
  | byt => exact Rep.one h
  | om => exact Rep.one h
  | _ => exact h

section
variable {C : Cx} {o : Oper} {ev : Operand → AV} {T : Sl}

theorem op_nil_ptr {y : Operand} {cs : List AV} (ho : o.op = .nilCheck y) (hy : ev y = .rop cs) : OpP C o ev T (.rop cs) := by
  intro a w S vals bss hm h
  have h1 := h y (by simp [ho, Op.operands])
  rw [hy] at h1
  obtain ⟨-, A, us, e, _⟩ := (show Rep C.P S w [] _ (.rop cs) from h1).rop_inv
  exact ⟨a.eval y, fun w => by simp [execOp, ho, e], h1⟩
/-- Field of a struct that is known. -/
theorem op_field {t ft : TypeId} {y : Operand} {f off n : Nat} {cs : List AV} (ho : o.op = .field t y f) (hy : ev y = .agg cs) (hf : fieldIs C.P t f off ft) (hs : sizeIs C.P ft n) (ha : aggB C.P ft = some true) (hn : off + n ≤ cs.length) {xs : List AV} (hx : (cs.drop off).take n = xs) : OpP C o ev T (.agg xs) := by
  intro a w S vals bss hm h
  have h1 := h y (by simp [ho, Op.operands])
  rw [hy] at h1
  obtain ⟨us, e, r⟩ := h1.agg
  obtain ⟨fs, fd, h1, h2, rfl, rfl⟩ := hf
  have hr := r.part fd.offset n
  rw [hx] at hr
  refine ⟨.agg (us.extract fd.offset (fd.offset + n)), fun w => ?_, ⟨_, rfl, ?_⟩⟩
  · simp [execOp, ho, e, Instr.field, run_underlying h1, h2, asAgg, part, run_isAgg ha, run_sizeOf hs]
  · have : (us.extract fd.offset (fd.offset + n)).toList = (us.toList.drop fd.offset).take n := by simp
    rw [this]; exact hr
theorem op_field1 {t ft : TypeId} {y : Operand} {f off : Nat} {cs : List AV} {x : AV} (ho : o.op = .field t y f) (hy : ev y = .agg cs) (hf : fieldIs C.P t f off ft) (ha : aggB C.P ft = some false) (hx : cs[off]? = some x) : OpP C o ev T x := by
  intro a w S vals bss hm h
  have h1 := h y (by simp [ho, Op.operands])
  rw [hy] at h1
  obtain ⟨us, e, r⟩ := h1.agg
  obtain ⟨fs, fd, h1, h2, rfl, rfl⟩ := hf
  obtain ⟨u, hu, hr⟩ := r.at_ hx
  have hu' : us[fd.offset]? = some u := by simpa using hu
  refine ⟨u, fun w => ?_, hr.tmp⟩
  simp [execOp, ho, e, Instr.field, run_underlying h1, h2, asAgg, part, run_isAgg ha, hu']
/-- The address of a field. -/
theorem op_fa_rop {t ft : TypeId} {y : Operand} {f off n : Nat} {cs : List AV} (ho : o.op = .fieldAddr t y f) (hy : ev y = .rop cs) (hf : fieldIs C.P t f off ft) (hs : sizeIs C.P ft n) (hn : n ≠ 0) (hl : off < cs.length) {xs : List AV} (hx : cs.drop off = xs) : OpP C o ev T (.rop xs) := by
  intro a w S vals bss hm h
  have h1 := h y (by simp [ho, Op.operands])
  rw [hy] at h1
  obtain ⟨-, A, us, e, hr, hlen, hc⟩ := (show Rep C.P S w [] _ (.rop cs) from h1).rop_inv
  obtain ⟨g, oo, hA, hS, hcell⟩ := hr (by omega)
  injection hA with hA
  subst hA
  refine ⟨.pointer (some ⟨g, oo + off, none⟩), fun w => by simp [execOp, ho, e, run_fieldAt hf hs hn, add_off], ?_⟩
  subst hx
  refine Rep.rop (us := us.drop off) (fun _ => ⟨g, oo + off, rfl, hS, fun j u hu => ?_⟩) (by simp [hlen]) fun i u x hu hx => ?_
  · rw [List.getElem?_drop] at hu
    rw [Nat.add_assoc]; exact hcell _ u hu
  · rw [List.getElem?_drop] at hu hx
    exact hc _ u x hu hx
theorem Mem.slot {S : Nat → Prop} {vals : List Value} {bss : List (List Nat)} {w : World} (hm : Mem C T S vals bss w) {r k : Nat} {x : AV} (h : T.slots[r]? = some (k, x)) : ∃ v bs, vals[r]? = some v ∧ bss[r]? = some bs ∧ Rep C.P S w bs v x := by
  have hr : r < T.slots.length := (List.getElem?_eq_some_iff.1 h).1
  have h1 := List.getElem?_eq_getElem (l := vals) (i := r) (by rw [hm.nv]; exact hr)
  have h2 := List.getElem?_eq_getElem (l := bss) (i := r) (by rw [hm.nb]; exact hr)
  exact ⟨_, _, h1, h2, hm.rep _ _ _ _ _ h h1 h2⟩
theorem op_nil_slot {y : Operand} {r k i j : Nat} {e : TypeId} {es : List (List AV)} (ho : o.op = .nilCheck y) (hy : ev y = .ptr r k i j) (hT : T.slots[r]? = some (k, .own e es)) : OpP C o ev T (.ptr r k i j) := by
  intro a w S vals bss hm h
  have h1 := h y (by simp [ho, Op.operands])
  rw [hy] at h1
  obtain ⟨v, bs, hv, hb, hrep⟩ := hm.slot hT
  obtain ⟨us, sz, bss', -, hi, -, -, -, -, -⟩ := hrep.own_inv
  obtain ⟨-, g, n, cap, -, e⟩ := h1.2.2 e es v sz hT hv hi
  exact ⟨a.eval y, fun w => by simp [execOp, ho, e], h1⟩
theorem op_fa_ptr {t ft : TypeId} {y : Operand} {f off n r k i j : Nat} {e : TypeId} {es : List (List AV)} (ho : o.op = .fieldAddr t y f) (hy : ev y = .ptr r k i j) (hT : T.slots[r]? = some (k, .own e es)) (hf : fieldIs C.P t f off ft) (hs : sizeIs C.P ft n) (hn : n ≠ 0) {j' : Nat} (hj : j + off = j') : OpP C o ev T (.ptr r k i j') := by
  intro a w S vals bss hm h
  have h1 := h y (by simp [ho, Op.operands])
  rw [hy] at h1
  obtain ⟨v, bs, hv, hb, hrep⟩ := hm.slot hT
  obtain ⟨us, sz, bss', -, hi, -, -, -, -, -⟩ := hrep.own_inv
  obtain ⟨hil, g, m, cap, hve, e'⟩ := h1.2.2 e es v sz hT hv hi
  refine ⟨.pointer (some ⟨g, i * sz + j + off, none⟩), fun w => by simp [execOp, ho, e', run_fieldAt hf hs hn, add_off], ⟨h1.1, rfl, ?_⟩⟩
  intro e2 es2 v2 sz2 hT2 hv2 hi2
  rw [hT] at hT2
  injection hT2 with hT2
  injection hT2 with _ hT2
  injection hT2 with h3 h4
  subst h3; subst h4
  rw [hv] at hv2
  injection hv2 with hv2
  subst hv2
  have := hi.inj hi2
  subst this
  refine ⟨hil, g, m, cap, hve, ?_⟩
  rw [← hj, Nat.add_assoc]
end
end Go.Proofs.Ytjgbbffcjbmjmaa
namespace Go.Proofs.Ytjgbbffcjbmjmaa
open Go.RowKit
set_option linter.unusedSimpArgs false
set_option linter.unusedVariables false

theorem Rep.ro_get {P : Program} {S : Nat → Prop} {w : World} {bs : List Nat} {u : Value} {es : List (List AV)} (h : Rep P S w bs u (.ro es)) {m : Nat} {row : List AV} (hm : es[m]? = some row) (hn : 0 < row.length) :
    ∃ g o c, u = .slice (some ⟨g, o, none⟩) es.length c ∧ es.length ≤ c ∧ c ≤ maxLen ∧ Rep P S w [] (.pointer (some ⟨g, o + m * row.length, none⟩)) (.rop row) := by
  obtain ⟨-, A, c, sz, us, rfl, h1, h2, h3, h4, h5, h6⟩ := h.ro_inv
  have hrow : row.length = sz := h3 row (List.mem_of_getElem? hm)
  have hml : m < es.length := (List.getElem?_eq_some_iff.1 hm).1
  have hfl := flat_len h3
  have hle : m * sz + sz ≤ es.length * sz := by rw [← Nat.succ_mul]; exact Nat.mul_le_mul_right _ hml
  obtain ⟨g, o, rfl, hS, hc⟩ := h4 (by omega)
  refine ⟨g, o, c, rfl, h1, h2, ?_⟩
  rw [hrow]
  refine Rep.rop (us := (us.drop (m * sz)).take sz) (fun _ => ⟨g, o + m * sz, rfl, hS, fun j u hu => ?_⟩) (by rw [List.length_take, List.length_drop]; omega) fun i u x hu hx => ?_
  · rw [List.getElem?_take] at hu
    split at hu
    · rw [List.getElem?_drop] at hu
      rw [Nat.add_assoc]; exact hc _ u hu
    · cases hu
  · rw [List.getElem?_take] at hu
    split at hu
    · rw [List.getElem?_drop] at hu
      exact h6 _ u x hu (flat_at h3 hm hx)
    · cases hu
theorem elem_eq {P : Program} {t e : TypeId} (h : P.underlying t = some (.slice e)) : P.elem t = e := by simp [Program.elem, h]

section
variable {C : Cx} {o : Oper} {ev : Operand → AV} {T : Sl}
theorem op_ia_ro {t e : TypeId} {y i : Operand} {es : List (List AV)} {kk : IntKind} {n : Int} (m : Nat) {row : List AV} (ho : o.op = .indexAddr t y i) (hy : ev y = .ro es ∨ ev y = .rof es) (hi : ev i = .v (.int kk n))
    (ht : C.P.underlying t = some (.slice e)) (hn : n = (m : Int)) (hm : es[m]? = some row) (hs : sizeIs C.P e row.length) (h0 : 0 < row.length) : OpP C o ev T (.rop row) := by
  intro a w S vals bss hme h
  have h1 := h y (by simp [ho, Op.operands])
  have h2 := h i (by simp [ho, Op.operands])
  rw [hi] at h2
  have h3 : Rep C.P S w [] (a.eval y) (.ro es) := by
    rcases hy with hy | hy
    · rw [hy] at h1; exact h1
    · rw [hy] at h1; exact Rep.ro_of_rof h1
  obtain ⟨g, oo, c, e1, h4, h5, h6⟩ := h3.ro_get hm h0
  have hml : m < es.length := (List.getElem?_eq_some_iff.1 hm).1
  refine ⟨_, fun w => ?_, h6⟩
  have hee := elem_eq ht
  subst hn
  have hlt : (m : Int) < (es.length : Int) := by omega
  simp [execOp, ho, e1, h2.v, run_indexAt_slice w t _ _ _ _ _ (by rw [hee]; exact ht), hlt, hee, run_sizeOf hs, add_off]
theorem op_ia_sl {t e : TypeId} {y i : Operand} {es : List (List AV)} {kk : IntKind} {n : Int} {r k off len : Nat} (m : Nat) (sz : Nat) (ho : o.op = .indexAddr t y i) (hy : ev y = .sl r k off len) (hi : ev i = .v (.int kk n))
    (hT : T.slots[r]? = some (k, .own e es)) (ht : C.P.underlying t = some (.slice e)) (hn : n = (m : Int)) (hm : m < len) (hs : sizeIs C.P e sz) {j : Nat} (hj : off + m = j) : OpP C o ev T (.ptr r k j 0) := by
  intro a w S vals bss hme h
  have h1 := h y (by simp [ho, Op.operands])
  have h2 := h i (by simp [ho, Op.operands])
  rw [hi] at h2
  rw [hy] at h1
  obtain ⟨v, bs, hv, hb, hrep⟩ := hme.slot hT
  obtain ⟨hol, A, nn, cap, hve, h3, h4, h5, h6⟩ := h1.2.2 e es v sz hT hv hs
  have hee := elem_eq ht
  have key : ∃ g cc, A = some ⟨g, 0, none⟩ ∧ a.eval y = .slice (some ⟨g, off * sz, none⟩) len cc := by
    obtain ⟨us, sz', bss', -, -, -, hown, -⟩ := hrep.own_inv
    rcases h6 with ⟨h7, h8⟩ | ⟨A', -, h7, h8⟩
    · rcases hown.2 with ⟨hnil, h0⟩ | ⟨g, cap', cur, hcap, -⟩
      · rw [hve] at hnil; injection hnil with e1 e2 e3; omega
      · rw [hve] at hcap
        injection hcap with e1 e2 e3
        subst e1; subst h7
        exact ⟨g, cap, rfl, by rw [h8]; simp⟩
    · obtain ⟨g, hA, hA'⟩ := h8 (by omega)
      exact ⟨g, _, hA, by rw [h7, hA']⟩
  obtain ⟨g, cc, hA, he⟩ := key
  subst hn
  have hlt : (m : Int) < (len : Int) := by omega
  refine ⟨.pointer (some ⟨g, off * sz + m * sz, none⟩), fun w => ?_, ⟨h1.1, rfl, ?_⟩⟩
  · simp [execOp, ho, he, h2.v, run_indexAt_slice w t _ _ _ _ _ (by rw [hee]; exact ht), hlt, hee, run_sizeOf hs, add_off]
  · intro e2 es2 v2 sz2 hT2 hv2 hi2
    rw [hT] at hT2
    injection hT2 with hT2
    injection hT2 with _ hT2
    injection hT2 with h3 h4
    subst h3; subst h4
    rw [hv] at hv2
    injection hv2 with hv2
    subst hv2
    have := hs.inj hi2
    subst this
    refine ⟨by omega, g, nn, cap, by rw [hve, hA], ?_⟩
    rw [← hj, Nat.add_mul, Nat.add_zero]
/-- The cells at a pointer into a slot. -/
theorem ptr_cells {S : Nat → Prop} {vals : List Value} {bss : List (List Nat)} {w : World} (hme : Mem C T S vals bss w) {u : Value} {r k i j : Nat} {e : TypeId} {es : List (List AV)} (hT : T.slots[r]? = some (k, .own e es)) (h : TmpOK C.P S w T vals u (.ptr r k i j)) {row : List AV} (hrow : es[i]? = some row) :
    ∃ g oo, u = .pointer (some ⟨g, oo, none⟩) ∧ ∀ q x, row[j + q]? = some x → ∃ c bs, w.cell? ⟨g, oo + q, none⟩ = some c ∧ Rep C.P S w bs c x := by
  obtain ⟨v, bs, hv, hb, hrep⟩ := hme.slot hT
  obtain ⟨us, sz, bss', -, hi, hsz, hown, hul, hbl, hc⟩ := hrep.own_inv
  obtain ⟨hil, g, nn, cap, hve, he⟩ := h.2.2 e es v sz hT hv hi
  refine ⟨g, _, he, fun q x hx => ?_⟩
  have hf := flat_at hsz hrow hx
  have hlt : i * sz + (j + q) < us.length := by rw [hul]; exact (List.getElem?_eq_some_iff.1 hf).1
  have h1 := List.getElem?_eq_getElem hlt
  have h2 := List.getElem?_eq_getElem (l := bss') (by rw [hbl]; exact hlt)
  refine ⟨_, _, ?_, hc _ _ _ _ h1 hf h2⟩
  have := hown.cells (g := g) (by rw [hve]; rfl) _ _ h1
  rw [add_off, Nat.zero_add] at this
  rw [Nat.add_assoc]
  exact this
theorem op_load_rop {t : TypeId} {y : Operand} {n : Nat} {cs xs : List AV} (ho : o.op = .load t y) (hy : ev y = .rop cs) (ha : aggB C.P t = some true) (hs : sizeIs C.P t n) (hn : n ≤ cs.length) (h0 : 0 < n) (hx : cs.take n = xs) : OpR C o ev T (.agg xs) := by
  intro a w S vals bss hm h
  have h1 := h y (by simp [ho, Op.operands])
  rw [hy] at h1
  obtain ⟨-, A, us, e, hr, hlen, hc⟩ := (show Rep C.P S w [] _ (.rop cs) from h1).rop_inv
  obtain ⟨g, oo, hA, hS, hcell⟩ := hr (by omega)
  injection hA with hA
  subst hA
  refine ⟨.agg (us.take n).toArray, fun w' hk => ?_, ⟨_, rfl, ?_⟩⟩
  · have hl := run_loadVar (P := C.P) ha hs ⟨g, oo, none⟩ (us.take n) (by rw [List.length_take]; omega) w' fun j u hu => by
      rw [List.getElem?_take] at hu
      split at hu
      · rw [add_off]; exact hk.cell (hcell j u hu) trivial
      · cases hu
    simp [execOp, ho, e, Instr.loadAt, Instr.sureAddr, hl]
  · subst hx
    refine ⟨by simp [hlen], fun i u x hu hx => ?_⟩
    simp only at hu
    rw [List.getElem?_take] at hu hx
    split at hu
    · rw [if_pos (by assumption)] at hx
      exact Rep.ref (hc i u x hu hx)
    · cases hu
theorem op_load_rop1 {t : TypeId} {y : Operand} {x : AV} {cs : List AV} (ho : o.op = .load t y) (hy : ev y = .rop (x :: cs)) (ha : aggB C.P t = some false) : OpR C o ev T x := by
  intro a w S vals bss hm h
  have h1 := h y (by simp [ho, Op.operands])
  rw [hy] at h1
  obtain ⟨-, A, us, e, hr, hlen, hc⟩ := (show Rep C.P S w [] _ (.rop (x :: cs)) from h1).rop_inv
  obtain ⟨g, oo, hA, hS, hcell⟩ := hr (by rw [hlen]; simp)
  injection hA with hA
  subst hA
  have hu := List.getElem?_eq_getElem (l := us) (i := 0) (by rw [hlen]; simp)
  refine ⟨_, fun w' hk => ?_, (Rep.ref (hc 0 _ x hu rfl)).tmp⟩
  have hcc := hk.cell (hcell 0 _ hu) trivial
  have hl := run_loadOne (P := C.P) ha ⟨g, oo, none⟩ _ w' hcc
  simp [execOp, ho, e, Instr.loadAt, Instr.sureAddr, hl]
theorem op_load_ptr {t : TypeId} {y : Operand} {n r k i j : Nat} {e : TypeId} {es : List (List AV)} {row xs : List AV} (ho : o.op = .load t y) (hy : ev y = .ptr r k i j) (hT : T.slots[r]? = some (k, .own e es)) (hrow : es[i]? = some row) (ha : aggB C.P t = some true) (hs : sizeIs C.P t n) (hn : j + n ≤ row.length) (hx : ((row.drop j).take n).map ldc = xs) : OpR C o ev T (.agg xs) := by
  intro a w S vals bss hm h
  have h1 := h y (by simp [ho, Op.operands])
  rw [hy] at h1
  obtain ⟨g, oo, he, hc⟩ := ptr_cells hm hT h1 hrow
  have hget : ∀ q, q < n → ∃ x c, row[j + q]? = some x ∧ w.cell? ⟨g, oo + q, none⟩ = some c ∧ Rep C.P S w [] c (ldc x) := fun q hq => by
    have hx := List.getElem?_eq_getElem (l := row) (i := j + q) (by omega)
    obtain ⟨c, bs, h3, h4⟩ := hc q _ hx
    exact ⟨_, c, hx, h3, h4.ldc⟩
  obtain ⟨us, hul, hus⟩ : ∃ us : List Value, us.length = n ∧ ∀ q u, us[q]? = some u → w.cell? ⟨g, oo + q, none⟩ = some u := by
    refine ⟨(List.range n).map fun q => (w.cell? ⟨g, oo + q, none⟩).getD undef, by simp, fun q u hu => ?_⟩
    have hq : q < n := by have := (List.getElem?_eq_some_iff.1 hu).1; simpa using this
    obtain ⟨x, c, _, h3, _⟩ := hget q hq
    simp [hq, h3] at hu
    rw [h3, hu]
  refine ⟨.agg us.toArray, fun w' hk => ?_, ⟨_, rfl, ?_⟩⟩
  · have hl := run_loadVar (P := C.P) ha hs ⟨g, oo, none⟩ us hul w' fun q u hu => by
      rw [add_off]; exact hk.cell (hus q u hu) trivial
    simp [execOp, ho, he, Instr.loadAt, Instr.sureAddr, hl]
  · subst hx
    refine ⟨by simp [hul]; omega, fun q u x hu hx => ?_⟩
    simp only at hu
    rw [List.getElem?_map, List.getElem?_take] at hx
    have hq : q < n := by have := (List.getElem?_eq_some_iff.1 hu).1; omega
    rw [if_pos hq, List.getElem?_drop] at hx
    obtain ⟨x', c, h2, h3, h4⟩ := hget q hq
    rw [h2] at hx
    simp at hx
    subst hx
    have := hus q u hu
    rw [h3] at this
    injection this with this
    subst this
    exact Rep.ref h4
theorem op_load_ptr1 {t : TypeId} {y : Operand} {r k i j : Nat} {e : TypeId} {es : List (List AV)} {row : List AV} {x x' : AV} (ho : o.op = .load t y) (hy : ev y = .ptr r k i j) (hT : T.slots[r]? = some (k, .own e es)) (hrow : es[i]? = some row) (ha : aggB C.P t = some false) (hx : row[j]? = some x) (hx' : ldc x = x') : OpR C o ev T x' := by
  intro a w S vals bss hm h
  have h1 := h y (by simp [ho, Op.operands])
  rw [hy] at h1
  obtain ⟨g, oo, he, hc⟩ := ptr_cells hm hT h1 hrow
  obtain ⟨c, bs, h3, h4⟩ := hc 0 x hx
  subst hx'
  refine ⟨c, fun w' hk => ?_, (Rep.ref h4.ldc).tmp⟩
  have hl := run_loadOne (P := C.P) ha ⟨g, oo, none⟩ _ w' (hk.cell h3 trivial)
  simp [execOp, ho, he, Instr.loadAt, Instr.sureAddr, hl]
/-- len -/
def lenA : AV → Option Nat
  | .sln n => some n
  | .ro es => some es.length
  | .rof es => some es.length
  | .v (.slice _ n _) => some n
  | .sl _ _ _ n => some n
  | .v (.string s) => some s.size
  | _ => none
theorem op_len_ro {t : TypeId} {y : Operand} {n : Nat} {x : AV} {e : TypeId} (ho : o.op = .call { callee := .builtin .len, args := #[y], argTypes := #[t] }) (hy : ev y = x) (ht : C.P.underlying t = some (.slice e))
    (hx : x = .sln n ∨ (∃ es, x = .ro es ∧ es.length = n) ∨ (∃ es, x = .rof es ∧ es.length = n) ∨ (n = 0 ∧ x = .v (.slice none 0 0))) : OpP C o ev T (.v (.int .i64 n)) := by
  intro a w S vals bss hm h
  have h1 := h y (by simp [ho, Op.operands, Call.operands])
  rw [hy] at h1
  obtain ⟨A, c, e1, -, -⟩ := lenOf_slice h1 hx
  refine ⟨_, fun w => ?_, TmpOK.v_ rfl⟩
  have hee := elem_eq ht
  simp [execOp, ho, resolve, invoke, builtin, e1, run_len_slice w t _ _ _ _ (by rw [hee]; exact ht), goInt]
theorem op_len_sl {t : TypeId} {y : Operand} {r k off len : Nat} {e e' : TypeId} {es : List (List AV)} (ho : o.op = .call { callee := .builtin .len, args := #[y], argTypes := #[t] }) (hy : ev y = .sl r k off len) (hT : T.slots[r]? = some (k, .own e es)) (ht : C.P.underlying t = some (.slice e')) : OpP C o ev T (.v (.int .i64 len)) := by
  intro a w S vals bss hm h
  have h1 := h y (by simp [ho, Op.operands, Call.operands])
  rw [hy] at h1
  obtain ⟨v, bs, hv, hb, hrep⟩ := hm.slot hT
  obtain ⟨us, sz', bss', -, hs, -⟩ := hrep.own_inv
  obtain ⟨hol, A, nn, cap, hve, h3, h4, h5, h6⟩ := h1.2.2 e es v _ hT hv hs
  have : ∃ A c, a.eval y = .slice A len c := by
    rcases h6 with ⟨_, h⟩ | ⟨A', _, h, _⟩
    · exact ⟨_, _, h⟩
    · exact ⟨_, _, h⟩
  obtain ⟨A, c, e1⟩ := this
  refine ⟨_, fun w => ?_, TmpOK.v_ rfl⟩
  have hee := elem_eq ht
  simp [execOp, ho, resolve, invoke, builtin, e1, run_len_slice w t _ _ _ _ (by rw [hee]; exact ht), goInt]
theorem op_len_str {t : TypeId} {y : Operand} {s : ByteArray} (ho : o.op = .call { callee := .builtin .len, args := #[y], argTypes := #[t] }) (hy : ev y = .v (.string s)) (ht : C.P.underlying t = some .string) : OpP C o ev T (.v (.int .i64 s.size)) := by
  intro a w S vals bss hm h
  have h1 := h y (by simp [ho, Op.operands, Call.operands])
  rw [hy] at h1
  exact ⟨_, fun w => by simp [execOp, ho, resolve, invoke, builtin, h1.v, run_len_string w t _ _ ht, goInt], TmpOK.v_ rfl⟩
/-- Byte of a string. -/
theorem op_ix_str {t : TypeId} {y i : Operand} {s : ByteArray} {kk : IntKind} {n : Int} (m : Nat) {b : UInt8} (ho : o.op = .index t y i) (hy : ev y = .v (.string s)) (hi : ev i = .v (.int kk n)) (ht : C.P.underlying t = some .string) (hn : n = (m : Int)) (hm : s.data.toList[m]? = some b) : OpP C o ev T (.v (.int .u8 b.toNat)) := by
  intro a w S vals bss hme h
  have h1 := h y (by simp [ho, Op.operands])
  have h2 := h i (by simp [ho, Op.operands])
  rw [hy] at h1
  rw [hi] at h2
  subst hn
  have hb : s[m]? = some b := by
    obtain ⟨h3, h4⟩ := List.getElem?_eq_some_iff.1 hm
    have h5 : m < s.size := by simpa using h3
    rw [getElem?_pos s m h5]
    congr 1
  exact ⟨_, fun w => by simp [execOp, ho, h1.v, h2.v, Instr.index, asIntOf, run_underlying ht, hb], TmpOK.v_ rfl⟩
/-- A conversion between integers. -/
theorem op_conv {s d : TypeId} {y : Operand} {k k' : IntKind} {n m : Int} {sd : TypeDesc} (ho : o.op = .convert s d y) (hy : ev y = .v (.int k n)) (hs : C.P.underlying s = some sd) (hd : C.P.underlying d = some (.int k')) (hm : k'.wrap n = m) : OpP C o ev T (.v (.int k' m)) := by
  intro a w S vals bss hme h
  have h1 := h y (by simp [ho, Op.operands])
  rw [hy] at h1
  exact ⟨_, fun w => by simp [execOp, ho, h1.v, convert, run_underlying hs, run_underlying hd, Conv.intToInt, hm], TmpOK.v_ rfl⟩
theorem op_min {t1 t2 : TypeId} {y z : Operand} {k k' : IntKind} {n m r : Int} (ho : o.op = .call { callee := .builtin .min, args := #[y, z], argTypes := #[t1, t2] }) (hy : ev y = .v (.int k n)) (hz : ev z = .v (.int k' m)) (hr : (if m < n then m else n) = r) : OpP C o ev T (.v (.int k r)) := by
  intro a w S vals bss hme h
  have h1 := h y (by simp [ho, Op.operands, Call.operands])
  have h2 := h z (by simp [ho, Op.operands, Call.operands])
  rw [hy] at h1
  rw [hz] at h2
  exact ⟨_, fun w => by simp [execOp, ho, resolve, invoke, builtin, Builtin.min_, Builtin.min2, h1.v, h2.v, hr], TmpOK.v_ rfl⟩
theorem op_max {t1 t2 : TypeId} {y z : Operand} {k k' : IntKind} {n m r : Int} (ho : o.op = .call { callee := .builtin .max, args := #[y, z], argTypes := #[t1, t2] }) (hy : ev y = .v (.int k n)) (hz : ev z = .v (.int k' m)) (hr : (if m > n then m else n) = r) : OpP C o ev T (.v (.int k r)) := by
  intro a w S vals bss hme h
  have h1 := h y (by simp [ho, Op.operands, Call.operands])
  have h2 := h z (by simp [ho, Op.operands, Call.operands])
  rw [hy] at h1
  rw [hz] at h2
  exact ⟨_, fun w => by simp [execOp, ho, resolve, invoke, builtin, Builtin.max_, Builtin.max2, h1.v, h2.v, hr], TmpOK.v_ rfl⟩
end
end Go.Proofs.Ytjgbbffcjbmjmaa
namespace Go.Proofs.Ytjgbbffcjbmjmaa
open Go.RowKit
set_option linter.unusedSimpArgs false
set_option linter.unusedVariables false

/-! ### Slots: one more; one turned -/
section
variable {C : Cx} {T : Sl} {S : Nat → Prop} {vals : List Value} {bss : List (List Nat)} {w w' : World}
theorem getElem?_snoc {α : Type} (l : List α) (a : α) (i : Nat) : (l ++ [a])[i]? = if i < l.length then l[i]? else if i = l.length then some a else none := by
  by_cases h : i < l.length
  · rw [if_pos h, List.getElem?_append_left h]
  · rw [if_neg h, List.getElem?_append_right (by omega)]
    by_cases h2 : i = l.length
    · rw [if_pos h2, h2]; simp
    · rw [if_neg h2, List.getElem?_eq_none (by simp; omega)]
theorem Mem.push (hm : Mem C T S vals bss w) (hk : Kept (fun _ => True) w w') {x : AV} {v : Value} {bs : List Nat} (hr : Rep C.P S w' bs v x) (hn : bs.Nodup) (hb : ∀ b ∈ bs, w.heap.size ≤ b) :
    Mem C ⟨T.slots ++ [(T.ep, x)], T.ep + 1⟩ S (vals ++ [v]) (bss ++ [bs]) w' ∧ Follows C.P S w T vals S w' ⟨T.slots ++ [(T.ep, x)], T.ep + 1⟩ (vals ++ [v]) := by
  have hw := hm.kept.size
  have hbl : ∀ (r : Nat) (bs : List Nat), bss[r]? = some bs → ∀ b ∈ bs, b < w.heap.size := fun r bs h b hb' => by
    have hr' : r < T.slots.length := by rw [← hm.nb]; exact (List.getElem?_eq_some_iff.1 h).1
    have h1 := List.getElem?_eq_getElem hr'
    have h2 := List.getElem?_eq_getElem (l := vals) (i := r) (by rw [hm.nv]; exact hr')
    exact (hm.rep r _ _ _ _ h1 h2 h).lt b hb'
  constructor
  · refine ⟨hm.kept.then hk (fun _ _ _ => trivial), hm.s0, hm.sub, fun k h => Nat.lt_of_lt_of_le (hm.lt k h) hk.size, by simp [hm.nv], by simp [hm.nb], ?_, ?_, ?_, ?_, ?_, ?_, ?_, by simp⟩
    · intro r k y u bs' h1 h2 h3
      rw [getElem?_snoc] at h1 h2 h3
      rw [hm.nv] at h2
      rw [hm.nb] at h3
      by_cases h : r < T.slots.length
      · rw [if_pos h] at h1 h2 h3
        exact (hm.rep r k y u bs' h1 h2 h3).kept hk (fun _ _ _ => trivial) fun _ _ => trivial
      · rw [if_neg h] at h1 h2 h3
        by_cases h' : r = T.slots.length
        · rw [if_pos h'] at h1 h2 h3
          injection h1 with h1; injection h1 with _ h1
          injection h2 with h2; injection h3 with h3
          subst h1; subst h2; subst h3
          exact hr
        · rw [if_neg h'] at h1; cases h1
    · intro r bs' h
      rw [getElem?_snoc] at h
      split at h
      · exact hm.nodup r bs' h
      · split at h
        · injection h with h; subst h; exact hn
        · cases h
    · intro r r' b1 b2 hne h1 h2 b hb1 hb2
      rw [getElem?_snoc] at h1 h2
      split at h1
      · have hlt := hbl r b1 h1 b hb1
        split at h2
        · exact hm.disj r r' b1 b2 hne h1 h2 b hb1 hb2
        · split at h2
          · injection h2 with h2; subst h2; have := hb b hb2; omega
          · cases h2
      · split at h1
        · injection h1 with h1; subst h1
          have hge := hb b hb1
          split at h2
          · have := hbl r' b2 h2 b hb2; omega
          · split at h2
            · omega
            · cases h2
        · cases h1
    · intro r bs' h b hb'
      rw [getElem?_snoc] at h
      split at h
      · exact hm.apart r bs' h b hb'
      · split at h
        · injection h with h; subst h
          intro hs
          have := hm.lt b hs; have := hb b hb'; omega
        · cases h
    · intro r bs' h b hb'
      rw [getElem?_snoc] at h
      split at h
      · exact hm.mine r bs' h b hb'
      · split at h
        · injection h with h; subst h
          have := hb b hb'; right; omega
        · cases h
    · intro r y hlt h
      rw [getElem?_snoc] at h
      rw [getElem?_snoc, hm.nv]
      by_cases h' : r < T.slots.length
      · rw [if_pos h'] at h ⊢
        exact hm.root r y hlt h
      · rw [if_neg h'] at h ⊢
        by_cases h2 : r = T.slots.length
        · rw [if_pos h2] at h
          injection h with h
          injection h with h _
          have := hm.pos; omega
        · rw [if_neg h2] at h; cases h
    · intro r k y h
      rw [getElem?_snoc] at h
      split at h
      · have := hm.ver r k y h; simp; omega
      · split at h
        · injection h with h; injection h with h _; subst h; simp
        · cases h
  · intro u y h
    have hold : ∀ (r k : Nat) (x' : AV), k < T.ep → (T.slots ++ [(T.ep, x)])[r]? = some (k, x') → T.slots[r]? = some (k, x') ∧ (vals ++ [v])[r]? = vals[r]? := fun r k x' hk' h => by
      rw [getElem?_snoc] at h
      rw [getElem?_snoc, hm.nv]
      split at h
      · rename_i hl; rw [if_pos hl]; exact ⟨h, rfl⟩
      · split at h
        · injection h with h; injection h with h _; omega
        · cases h
    cases y with
    | sl r k off len =>
      refine ⟨by have := h.1; simp; omega, h.2.1, fun e es v' sz h1 h2 h3 => ?_⟩
      obtain ⟨h4, h5⟩ := hold r k _ h.1 h1
      rw [h5] at h2
      exact h.2.2 e es v' sz h4 h2 h3
    | ptr r k i j =>
      refine ⟨by have := h.1; simp; omega, h.2.1, fun e es v' sz h1 h2 h3 => ?_⟩
      obtain ⟨h4, h5⟩ := hold r k _ h.1 h1
      rw [h5] at h2
      exact h.2.2 e es v' sz h4 h2 h3
    | mp r k =>
      refine ⟨by have := h.1; simp; omega, h.2.1, fun b ks v' h1 h2 => ?_⟩
      obtain ⟨h4, h5⟩ := hold r k _ h.1 h1
      rw [h5] at h2
      exact h.2.2 b ks v' h4 h2
    | _ => exact RefOK.kept (T := T) h hk (fun _ _ _ => trivial) (fun _ h => h)
theorem Mem.blt (hm : Mem C T S vals bss w) {r : Nat} {bs : List Nat} (h : bss[r]? = some bs) : ∀ b ∈ bs, b < w.heap.size := fun b hb' => by
  have hr' : r < T.slots.length := by rw [← hm.nb]; exact (List.getElem?_eq_some_iff.1 h).1
  have h1 := List.getElem?_eq_getElem hr'
  have h2 := List.getElem?_eq_getElem (l := vals) (i := r) (by rw [hm.nv]; exact hr')
  exact (hm.rep r _ _ _ _ h1 h2 h).lt b hb'
theorem getElem?_set_ {α : Type} (l : List α) (i j : Nat) (a : α) (h : i < l.length) : (l.set i a)[j]? = if i = j then some a else l[j]? := by
  rw [List.getElem?_set]
  split
  · rename_i e; subst e; first | rfl | rw [if_pos h]
  · rfl
/-- Slot r is turned: k' is its old version and its value the old one, or the version is new. -/
theorem Mem.set {r k k' ep' : Nat} {x x' : AV} {v v' : Value} {bs bs' : List Nat} (hm : Mem C T S vals bss w) (hs : T.slots[r]? = some (k, x)) (hv : vals[r]? = some v) (hb : bss[r]? = some bs) (hk : Kept (fun q => q ∉ bs) w w')
    (hr : Rep C.P S w' bs' v' x') (hn : bs'.Nodup) (hsub : ∀ b ∈ bs', b ∈ bs ∨ w.heap.size ≤ b)
    (hver : (k' = k ∧ ep' = T.ep ∧ v' = v ∧ (∀ e es, x' = .own e es → ∃ es0, x = .own e es0 ∧ es0.length = es.length) ∧ (∀ b ks, x' = .om b ks → ∃ ks0, x = .om b ks0)) ∨ (k' = T.ep ∧ ep' = T.ep + 1)) :
    Mem C ⟨T.slots.set r (k', x'), ep'⟩ S (vals.set r v') (bss.set r bs') w' ∧ Follows C.P S w T vals S w' ⟨T.slots.set r (k', x'), ep'⟩ (vals.set r v') := by
  have hrl : r < T.slots.length := (List.getElem?_eq_some_iff.1 hs).1
  have hep : T.ep ≤ ep' := by rcases hver with h | h <;> omega
  have hkS : ∀ q, q < w.heap.size → S q → q ∉ bs := fun q _ hq hqb => hm.apart r bs hb q hqb hq
  constructor
  · refine ⟨hm.kept.then hk fun q hq hq' hqb => ?_, hm.s0, hm.sub, fun q h => Nat.lt_of_lt_of_le (hm.lt q h) hk.size, by simp [hm.nv], by simp [hm.nb], ?_, ?_, ?_, ?_, ?_, ?_, ?_, by show 0 < ep'; have := hm.pos; omega⟩
    · rcases hm.mine r bs hb q hqb with h | h
      · exact hq' h
      · omega
    · intro q kq y u b1 h1 h2 h3
      rw [getElem?_set_ _ _ _ _ hrl] at h1
      rw [getElem?_set_ _ _ _ _ (by rw [hm.nv]; exact hrl)] at h2
      rw [getElem?_set_ _ _ _ _ (by rw [hm.nb]; exact hrl)] at h3
      by_cases h : r = q
      · rw [if_pos h] at h1 h2 h3
        injection h1 with h1; injection h1 with _ h1
        injection h2 with h2; injection h3 with h3
        subst h1; subst h2; subst h3
        exact hr
      · rw [if_neg h] at h1 h2 h3
        exact (hm.rep q kq y u b1 h1 h2 h3).kept hk hkS fun b hb' hbb => hm.disj r q bs b1 h hb h3 b hbb hb'
    · intro q b1 h3
      rw [getElem?_set_ _ _ _ _ (by rw [hm.nb]; exact hrl)] at h3
      split at h3
      · injection h3 with h3; subst h3; exact hn
      · exact hm.nodup q b1 h3
    · intro q q' b1 b2 hne h1 h2 b hb1 hb2
      rw [getElem?_set_ _ _ _ _ (by rw [hm.nb]; exact hrl)] at h1 h2
      split at h1
      · rename_i e1
        injection h1 with h1; subst h1
        rw [if_neg (fun e2 => hne (e1.symm.trans e2))] at h2
        rcases hsub b hb1 with h | h
        · exact hm.disj r q' bs b2 (fun e2 => hne (e1.symm.trans e2)) hb h2 b h hb2
        · have := hm.blt h2 b hb2; omega
      · rename_i e1
        split at h2
        · injection h2 with h2; subst h2
          rename_i e2
          rcases hsub b hb2 with h | h
          · exact hm.disj r q bs b1 e1 hb h1 b h hb1
          · have := hm.blt h1 b hb1; omega
        · exact hm.disj q q' b1 b2 hne h1 h2 b hb1 hb2
    · intro q b1 h1 b hb1 hSb
      rw [getElem?_set_ _ _ _ _ (by rw [hm.nb]; exact hrl)] at h1
      split at h1
      · injection h1 with h1; subst h1
        rcases hsub b hb1 with h | h
        · exact hm.apart r bs hb b h hSb
        · have := hm.lt b hSb; omega
      · exact hm.apart q b1 h1 b hb1 hSb
    · intro q b1 h1 b hb1
      rw [getElem?_set_ _ _ _ _ (by rw [hm.nb]; exact hrl)] at h1
      split at h1
      · injection h1 with h1; subst h1
        rcases hsub b hb1 with h | h
        · exact hm.mine r bs hb b h
        · have := hm.kept.size; right; omega
      · exact hm.mine q b1 h1 b hb1
    · intro q y hlt h
      rw [getElem?_set_ _ _ _ _ hrl] at h
      rw [getElem?_set_ _ _ _ _ (by rw [hm.nv]; exact hrl)]
      split at h
      · rename_i e1
        rw [if_pos e1]
        injection h with h; injection h with h _
        rcases hver with ⟨h1, h2, h3, _⟩ | ⟨h1, h2⟩
        · subst h3
          subst e1
          have := hm.root r x hlt (by rw [hs, ← h1, h])
          rw [← this, hv]
        · have := hm.pos; omega
      · rename_i e1
        rw [if_neg e1]
        exact hm.root q y hlt h
    · intro q kq y h
      rw [getElem?_set_ _ _ _ _ hrl] at h
      show kq < ep'
      split at h
      · injection h with h; injection h with h _
        have := hm.ver r k x hs
        rcases hver with ⟨h1, h2, _⟩ | ⟨h1, h2⟩ <;> omega
      · have := hm.ver q kq y h; omega
  · intro u y h
    have old : ∀ (q kq : Nat) (y' : AV), kq < T.ep → (T.slots.set r (k', x'))[q]? = some (kq, y') → (r ≠ q ∧ T.slots[q]? = some (kq, y') ∧ (vals.set r v')[q]? = vals[q]?) ∨ (r = q ∧ kq = k ∧ x' = y' ∧ v' = v ∧ (vals.set r v')[q]? = some v ∧ (∀ e es, x' = .own e es → ∃ es0, x = .own e es0 ∧ es0.length = es.length) ∧ (∀ b ks, x' = .om b ks → ∃ ks0, x = .om b ks0)) := fun q kq y' hkq h => by
      rw [getElem?_set_ _ _ _ _ hrl] at h
      rw [getElem?_set_ _ _ _ _ (by rw [hm.nv]; exact hrl)]
      split at h
      · rename_i e1
        injection h with h; injection h with h h'
        rcases hver with ⟨h1, h2, h3, h4, h5⟩ | ⟨h1, h2⟩
        · exact .inr ⟨e1, by omega, h', h3, by rw [if_pos e1, h3], h4, h5⟩
        · omega
      · rename_i e1
        exact .inl ⟨e1, h, by rw [if_neg e1]⟩
    cases y with
    | sl q kq off len =>
      refine ⟨Nat.lt_of_lt_of_le h.1 hep, h.2.1, fun e es v2 sz h1 h2 h3 => ?_⟩
      rcases old q kq _ h.1 h1 with ⟨_, h4, h5⟩ | ⟨rfl, rfl, hx, _, h5, h6, _⟩
      · rw [h5] at h2; exact h.2.2 e es v2 sz h4 h2 h3
      · rw [h5] at h2
        injection h2 with h2; subst h2
        obtain ⟨es0, hx0, hl⟩ := h6 e es hx
        rw [← hl]
        exact h.2.2 e es0 v sz (by rw [hs, hx0]) hv h3
    | ptr q kq i j =>
      refine ⟨Nat.lt_of_lt_of_le h.1 hep, h.2.1, fun e es v2 sz h1 h2 h3 => ?_⟩
      rcases old q kq _ h.1 h1 with ⟨_, h4, h5⟩ | ⟨rfl, rfl, hx, _, h5, h6, _⟩
      · rw [h5] at h2; exact h.2.2 e es v2 sz h4 h2 h3
      · rw [h5] at h2
        injection h2 with h2; subst h2
        obtain ⟨es0, hx0, hl⟩ := h6 e es hx
        rw [← hl]
        exact h.2.2 e es0 v sz (by rw [hs, hx0]) hv h3
    | mp q kq =>
      refine ⟨Nat.lt_of_lt_of_le h.1 hep, h.2.1, fun b ks v2 h1 h2 => ?_⟩
      rcases old q kq _ h.1 h1 with ⟨_, h4, h5⟩ | ⟨rfl, rfl, hx, _, h5, _, h6⟩
      · rw [h5] at h2; exact h.2.2 b ks v2 h4 h2
      · rw [h5] at h2
        injection h2 with h2; subst h2
        obtain ⟨ks0, hx0⟩ := h6 b ks hx
        exact h.2.2 b ks0 v (by rw [hs, hx0]) hv
    | _ => exact RefOK.kept (T := T) h hk hkS (fun _ h => h)
end
end Go.Proofs.Ytjgbbffcjbmjmaa
namespace Go.Proofs.Ytjgbbffcjbmjmaa
open Go.RowKit
set_option linter.unusedSimpArgs false
set_option linter.unusedVariables false

/-- What is stored of a datum: a reference is not. -/
def stc : AV → AV
  | .sl _ _ _ _ => .any
  | .ptr _ _ _ _ => .any
  | .mp _ _ => .any
  | .nm _ _ _ => .any
  | .byt _ _ _ => .any
  | .om _ _ => .any
  | x => x
theorem RefOK.stc {P : Program} {S : Nat → Prop} {w : World} {T : Sl} {vals : List Value} {u : Value} {x : AV} (h : RefOK P S w T vals u x) : Rep P S w [] u (stc x) := by
  cases x with
  | sl => exact .any h.2.1
  | ptr => exact .any h.2.1
  | mp => exact .any h.2.1
  | nm => exact .any h
  | byt => exact .any h
  | om => exact .any h
  | _ => exact h
/-- The cells of a datum. -/
def rowOf : AV → Option (List AV)
  | .agg cs => some (cs.map stc)
  | .tup _ => none
  | .any => none
  | x => some [stc x]
theorem TmpOK.row {P : Program} {S : Nat → Prop} {w : World} {T : Sl} {vals : List Value} {u : Value} {x : AV} {row : List AV} (h : TmpOK P S w T vals u x) (hr : rowOf x = some row) : RL (Rep P S w []) u.cells.toList row := by
  cases x with
  | agg cs =>
    obtain ⟨us, rfl, r⟩ := h.agg
    simp [rowOf] at hr
    subst hr
    refine ⟨by simp [Value.cells, ← r.1], fun i u x hu hx => ?_⟩
    rw [List.getElem?_map] at hx
    cases hc : cs[i]? with
    | none => rw [hc] at hx; cases hx
    | some c =>
      rw [hc] at hx
      simp at hx
      subst hx
      exact (r.2 i u c hu hc).stc
  | tup => cases hr
  | any => cases hr
  | _ =>
    simp only [rowOf, Option.some.injEq] at hr
    simp only [TmpOK, AggOK] at h
    subst hr
    have h1 := RefOK.one h
    have h2 : u.cells.toList = [u] := by cases u <;> first | rfl | cases h1
    rw [h2]
    exact RL.cons (RefOK.stc h) RL.nil
def splice {α : Type} (cs : List α) (off : Nat) (xs : List α) : List α := cs.take off ++ xs ++ cs.drop (off + xs.length)
theorem splice_len {α : Type} (cs : List α) (off : Nat) (xs : List α) (h : off + xs.length ≤ cs.length) : (splice cs off xs).length = cs.length := by
  unfold splice; simp; omega
theorem RL.spl {α β : Type} {R : α → β → Prop} {us vs : List α} {xs ys : List β} (h : RL R us xs) (h' : RL R vs ys) (off : Nat) : RL R (splice us off vs) (splice xs off ys) := by
  unfold splice
  have h1 := h.part 0 off
  simp only [List.drop_zero] at h1
  have h2 := h.part (off + vs.length) us.length
  rw [List.take_of_length_le (by simp)] at h2
  rw [List.take_of_length_le (by simp [h.1])] at h2
  rw [h'.1] at h2
  exact (h1.append h').append (by rw [h'.1]; exact h2)
theorem fold_set (off : Nat) : ∀ (l : List Value) (j : Nat) (cs : Array Value), off + j + l.length ≤ cs.size → ((l.zipIdx j).foldl (fun cs (c, j) => cs.setIfInBounds (off + j) c) cs).toList = splice cs.toList (off + j) l
  | [], j, cs, h => by simp [splice]
  | v :: l, j, cs, h => by
    simp only [List.length_cons] at h
    rw [List.zipIdx_cons, List.foldl_cons, fold_set off l (j + 1) _ (by simp; omega), Array.toList_setIfInBounds]
    have := list_seg_step cs.toList (off + j) v l (by simp; omega)
    unfold splice
    rw [← Nat.add_assoc, this]
    simp
theorem fill_run (place : Nat → Option (Nat × Nat)) : ∀ (parts : List (Nat × Value)) (cells : Array Value), (∀ p ∈ parts, ∃ off, place p.1 = some (off, p.2.cells.size) ∧ off + p.2.cells.size ≤ cells.size) →
    Instr.fill place cells parts = some (parts.foldl (fun cs p => splice cs ((place p.1).getD (0, 0)).1 p.2.cells.toList) cells.toList).toArray
  | [], cells, _ => by simp [Instr.fill]
  | (i, v) :: rest, cells, h => by
    obtain ⟨off, hp, hle⟩ := h (i, v) (by simp)
    simp only at hp hle
    have hf : (v.cells.zipIdx.foldl (fun cs (c, j) => cs.setIfInBounds (off + j) c) cells).toList = splice cells.toList off v.cells.toList := by
      have := fold_set off v.cells.toList 0 cells (by simp; omega)
      rw [Nat.add_zero] at this
      rw [← this]
      congr 1
      rw [← Array.foldl_toList]
      congr 1
      simp
    have hsz : (v.cells.zipIdx.foldl (fun cs (c, j) => cs.setIfInBounds (off + j) c) cells).size = cells.size := by
      rw [← Array.length_toList, hf, splice_len _ _ _ (by simp; omega)]; simp
    unfold Instr.fill
    simp only [hp]
    rw [if_neg (by simp; omega)]
    rw [fill_run place rest _ (fun p hp' => by
      obtain ⟨o, h1, h2⟩ := h p (by simp [hp'])
      exact ⟨o, h1, by rw [hsz]; exact h2⟩)]
    rw [List.foldl_cons, hf]
    simp [hp]

/-- A type of the table: its zero, its size. -/
def zeroIs (P : Program) (t : TypeId) (z : Value) (sz bytes : Nat) : Prop := (P.info? t).map (fun i => (i.zero, i.size, i.bytes)) = some (some z, sz, bytes) ∧ z.cells.size = sz ∧ z.cells.all (·.oneCell') = true
theorem zeroIs.size {P : Program} {t : TypeId} {z : Value} {sz b : Nat} (h : zeroIs P t z sz b) : sizeIs P t sz := by
  obtain ⟨h, -, -⟩ := h
  unfold sizeIs
  cases hi : P.info? t with
  | none => rw [hi] at h; cases h
  | some i => rw [hi] at h; simp at h; simp [h]
theorem zeroIs.run {P : Program} {t : TypeId} {z : Value} {sz b : Nat} (h : zeroIs P t z sz b) (w : World) : (zeroValue t).run P w = .ok z w := by
  obtain ⟨h, -, -⟩ := h
  cases hi : P.info? t with
  | none => rw [hi] at h; cases h
  | some i => rw [hi] at h; simp at h; simp [zeroValue, typeInfo, hi, h]
theorem zeroIs.rl {P : Program} {t : TypeId} {z : Value} {sz b : Nat} (h : zeroIs P t z sz b) {S : Nat → Prop} {w : World} : RL (Rep P S w []) z.cells.toList (z.cells.toList.map .v) := by
  refine ⟨by simp, fun i u x hu hx => ?_⟩
  rw [List.getElem?_map, hu] at hx
  simp at hx
  subst hx
  have := Array.all_eq_true_iff_forall_mem.1 h.2.2 u (Array.mem_toList_iff.1 (List.mem_of_getElem? hu))
  exact .v this

section
variable {C : Cx} {o : Oper} {ev : Operand → AV} {T : Sl}
def pushT (T : Sl) (x : AV) : Sl := ⟨T.slots ++ [(T.ep, x)], T.ep + 1⟩
theorem rep_new {P : Program} {S : Nat → Prop} {w : World} {e : TypeId} {sz : Nat} {es : List (List AV)} {us : List Value} (hi : sizeIs P e sz) (hs : ∀ x ∈ es, x.length = sz) (hm : es.length ≤ maxLen) (hr : RL (Rep P S w []) us es.flatten) :
    Rep P S (w.alloc (.cells us.toArray e)) [w.heap.size] (.slice (some ⟨w.heap.size, 0, none⟩) es.length es.length) (.own e es) := by
  have ho := World.ownsRow_lit (base := 0) (e := e) (size := sz) w us.toArray es.length (Nat.zero_le _) hm (by simp; rw [hr.1, flat_len hs])
  have hk : Kept (fun _ => True) w (w.alloc (.cells us.toArray e)) := (Kept.refl _ _).alloc _
  have := Rep.own (P := P) (S := S) (bss := List.replicate us.length []) hi hs (us := us) (by simpa using ho) hr.1 (by simp) fun i u x bs hu hx hb => by
    have : bs = [] := by
      rw [List.getElem?_replicate] at hb
      split at hb <;> simp_all
    subst this
    exact (hr.2 i u x hu hx).kept hk (fun _ _ _ => trivial) (by simp)
  have e1 : (List.replicate us.length ([] : List Nat)).flatten = [] := by simp
  rw [e1] at this
  exact this
theorem op_new_ptr {e : TypeId} {sz : Nat} {row : List AV} (hi : sizeIs C.P e sz) (hl : row.length = sz)
    (h : ∀ (a : Act) (w : World) (S : Nat → Prop) (vals : List Value) (bss : List (List Nat)), Mem C T S vals bss w → (∀ y ∈ o.op.operands, TmpOK C.P S w T vals (a.eval y) (ev y)) →
      ∃ us, (execOp a.eval o).run C.P w = .ok (.value (.pointer (some ⟨w.heap.size, 0, none⟩))) (w.alloc (.cells us.toArray e)) ∧ RL (Rep C.P S w []) us row) : OpJ C o ev T (.ptr T.slots.length T.ep 0 0) (pushT T (.own e [row])) := by
  intro a w S vals bss hm ho K hK Q
  obtain ⟨us, hrun, hr⟩ := h a w S vals bss hm ho
  have hrep := rep_new (es := [row]) hi (by simpa using hl) (by unfold maxLen; simp) (us := us) (by simpa using hr)
  obtain ⟨hm', hf⟩ := hm.push ((Kept.refl _ _).alloc (.cells us.toArray e)) hrep (by simp) (by simp)
  unfold Oper.wp
  rw [hrun]
  refine hK _ _ _ _ _ hm' hf ⟨by simp [pushT], rfl, fun e' es v sz' h1 h2 h3 => ?_⟩
  have h1 : (T.slots ++ [_])[T.slots.length]? = _ := h1
  rw [getElem?_snoc, if_neg (Nat.lt_irrefl _), if_pos rfl] at h1
  rw [getElem?_snoc, hm.nv, if_neg (Nat.lt_irrefl _), if_pos rfl] at h2
  injection h1 with h1; injection h1 with _ h1
  injection h1 with h1 h4
  injection h2 with h2
  subst h1; subst h2; subst h4
  exact ⟨by simp, _, _, _, rfl, by simp⟩
theorem op_new_sl {e : TypeId} {sz : Nat} {es : List (List AV)} (hi : sizeIs C.P e sz) (hs : ∀ x ∈ es, x.length = sz) (hl : es.length ≤ maxLen)
    (h : ∀ (a : Act) (w : World) (S : Nat → Prop) (vals : List Value) (bss : List (List Nat)), Mem C T S vals bss w → (∀ y ∈ o.op.operands, TmpOK C.P S w T vals (a.eval y) (ev y)) →
      ∃ us, (execOp a.eval o).run C.P w = .ok (.value (.slice (some ⟨w.heap.size, 0, none⟩) es.length es.length)) (w.alloc (.cells us.toArray e)) ∧ RL (Rep C.P S w []) us es.flatten) : OpJ C o ev T (.sl T.slots.length T.ep 0 es.length) (pushT T (.own e es)) := by
  intro a w S vals bss hm ho K hK Q
  obtain ⟨us, hrun, hr⟩ := h a w S vals bss hm ho
  have hrep := rep_new (es := es) hi hs hl (us := us) hr
  obtain ⟨hm', hf⟩ := hm.push ((Kept.refl _ _).alloc (.cells us.toArray e)) hrep (by simp) (by simp)
  unfold Oper.wp
  rw [hrun]
  refine hK _ _ _ _ _ hm' hf ⟨by simp [pushT], rfl, fun e' es' v sz' h1 h2 h3 => ?_⟩
  have h1 : (T.slots ++ [_])[T.slots.length]? = _ := h1
  rw [getElem?_snoc, if_neg (Nat.lt_irrefl _), if_pos rfl] at h1
  rw [getElem?_snoc, hm.nv, if_neg (Nat.lt_irrefl _), if_pos rfl] at h2
  injection h1 with h1; injection h1 with _ h1
  injection h1 with h1 h4
  injection h2 with h2
  subst h1; subst h2; subst h4
  exact ⟨by simp, _, _, _, rfl, by simp, Nat.le_refl _, hl, .inl ⟨rfl, rfl⟩⟩

theorem op_alloc {t : TypeId} {z : Value} {sz b : Nat} {row : List AV} (ho : o.op = .alloc t) (hz : zeroIs C.P t z sz b) (hrow : z.cells.toList.map .v = row) : OpJ C o ev T (.ptr T.slots.length T.ep 0 0) (pushT T (.own t [row])) := by
  refine op_new_ptr hz.size (by rw [← hrow]; simp [hz.2.1]) fun a w S vals bss hm h => ⟨z.cells.toList, ?_, by rw [← hrow]; exact hz.rl⟩
  simp [execOp, ho, Instr.alloc, hz.run, newVar, newRow]
theorem op_box {t : TypeId} {y : Operand} {x : AV} {sz : Nat} {row : List AV} (ho : o.op = .box t y) (hy : ev y = x) (hrow : rowOf x = some row) (hs : sizeIs C.P t sz) (hl : row.length = sz) : OpJ C o ev T (.ptr T.slots.length T.ep 0 0) (pushT T (.own t [row])) := by
  refine op_new_ptr hs hl fun a w S vals bss hm h => ?_
  have h1 := h y (by simp [ho, Op.operands])
  rw [hy] at h1
  exact ⟨_, by simp [execOp, ho, Instr.box, newVar, newRow], h1.row hrow⟩
end
end Go.Proofs.Ytjgbbffcjbmjmaa
namespace Go.Proofs.Ytjgbbffcjbmjmaa
open Go.RowKit
set_option linter.unusedSimpArgs false
set_option linter.unusedVariables false

theorem flatten_set {sz : Nat} : ∀ {es : List (List AV)}, (∀ e ∈ es, e.length = sz) → ∀ {i : Nat} {row : List AV}, es[i]? = some row → ∀ (j : Nat) (xs : List AV), j + xs.length ≤ row.length →
    (es.set i (splice row j xs)).flatten = splice es.flatten (i * sz + j) xs
  | [], _, i, row, h, _, _, _ => by simp at h
  | e :: es, hs, i, row, h, j, xs, hj => by
    have he := hs e (by simp)
    cases i with
    | zero =>
      simp at h
      subst h
      unfold splice
      rw [List.set_cons_zero, List.flatten_cons, List.flatten_cons, Nat.zero_mul, Nat.zero_add, List.take_append_of_le_length (by omega), List.drop_append_of_le_length hj]
      simp
    | succ i =>
      have ih := flatten_set (es := es) (fun e h => hs e (by simp [h])) (i := i) (by simpa using h) j xs hj
      rw [List.set_cons_succ, List.flatten_cons, ih, List.flatten_cons]
      unfold splice
      have e1 : (i + 1) * sz + j = e.length + (i * sz + j) := by rw [he, Nat.add_mul]; omega
      have h1 : List.take (e.length + (i * sz + j)) (e ++ es.flatten) = e ++ List.take (i * sz + j) es.flatten := by
        rw [List.take_append, List.take_of_length_le (by omega), Nat.add_sub_cancel_left]
      have h2 : List.drop (e.length + (i * sz + j) + xs.length) (e ++ es.flatten) = List.drop (i * sz + j + xs.length) es.flatten := by
        have h0 : List.drop (e.length + (i * sz + j) + xs.length) e = [] := List.drop_eq_nil_of_le (by omega)
        rw [List.drop_append, h0, List.nil_append, Nat.add_assoc, Nat.add_sub_cancel_left]
      rw [e1, h1, h2]
      simp
theorem splice_get {α : Type} (cs : List α) (p : Nat) (xs : List α) (h : p + xs.length ≤ cs.length) (i : Nat) : (splice cs p xs)[i]? = if i < p then cs[i]? else if i < p + xs.length then xs[i - p]? else cs[i]? := by
  unfold splice
  have hl : (cs.take p).length = p := by rw [List.length_take]; omega
  by_cases h1 : i < p
  · rw [if_pos h1, List.append_assoc, List.getElem?_append_left (by omega), List.getElem?_take, if_pos h1]
  · rw [if_neg h1, List.append_assoc, List.getElem?_append_right (by omega), hl]
    by_cases h2 : i < p + xs.length
    · rw [if_pos h2, List.getElem?_append_left (by omega)]
    · rw [if_neg h2, List.getElem?_append_right (by omega), List.getElem?_drop]
      congr 1; omega
/-- Cells of an owned row are written: vs, which stand for xs and own bvs. -/
theorem Rep.own_set {P : Program} {S : Nat → Prop} {w : World} {bs : List Nat} {v : Value} {e : TypeId} {es : List (List AV)} (h : Rep P S w bs v (.own e es)) (hnd : bs.Nodup) (hap : ∀ b ∈ bs, ¬ S b) {i j : Nat} {row : List AV} (hrow : es[i]? = some row)
    {vs : List Value} {xs : List AV} {bvs : List (List Nat)} (hb1 : bvs.length = vs.length) (hx1 : vs.length = xs.length) (hr : ∀ (q : Nat) (u : Value) (x : AV) (b : List Nat), vs[q]? = some u → xs[q]? = some x → bvs[q]? = some b → Rep P S w b u x) (hbv : ∀ b ∈ bvs.flatten, b ∉ bs) (hbn : bvs.flatten.Nodup) (hj : j + xs.length ≤ row.length) :
    ∃ g cap cur sz bs', v = .slice (some ⟨g, 0, none⟩) es.length cap ∧ w.heap[g]? = some (.cells cur e (0, 0)) ∧ sizeIs P e sz ∧ i * sz + j + vs.length ≤ cur.size ∧ g ∈ bs ∧
      Rep P S (w.setRow g (cur.toList.take (i * sz + j) ++ vs ++ cur.toList.drop (i * sz + j + vs.length)).toArray) bs' v (.own e (es.set i (splice row j xs))) ∧ bs'.Nodup ∧ (∀ b ∈ bs', b ∈ bs ∨ b ∈ bvs.flatten) := by
  obtain ⟨us, sz, bss, rfl, hi, hsz, hown, hul, hbl, hc⟩ := h.own_inv
  have hil : i < es.length := (List.getElem?_eq_some_iff.1 hrow).1
  have hrl : row.length = sz := hsz row (List.mem_of_getElem? hrow)
  have hle : i * sz + sz ≤ es.length * sz := by rw [← Nat.succ_mul]; exact Nat.mul_le_mul_right _ hil
  have hfl := flat_len hsz
  rcases hown.2 with ⟨rfl, h0⟩ | ⟨g, cap, cur, rfl, -, hg, hnc, hcm, hcs, htake⟩
  · omega
  have hcl : es.length * sz ≤ cur.size := by rw [hcs]; exact Nat.mul_le_mul_right _ hnc
  have hlen : i * sz + j + vs.length ≤ us.length := by omega
  have hown' : (Value.slice (some ⟨g, 0, none⟩) es.length cap).ownBlock.toList = [g] := rfl
  rw [hown'] at hnd hap hbv ⊢
  simp only [List.singleton_append, List.nodup_cons] at hnd
  refine ⟨g, cap, cur, sz, [g] ++ (splice bss (i * sz + j) bvs).flatten, rfl, hg, hi, by omega, by simp, ?_, ?_, ?_⟩
  · have hcur : (splice cur.toList (i * sz + j) vs).take (es.length * sz) = splice us (i * sz + j) vs := by
      apply List.ext_getElem?
      intro q
      rw [splice_get us _ _ hlen, List.getElem?_take, splice_get cur.toList _ _ (by simp; omega)]
      by_cases hq : q < es.length * sz
      · rw [if_pos hq]
        have : us[q]? = cur.toList[q]? := by rw [← htake, List.getElem?_take, if_pos hq]
        rw [this]
      · rw [if_neg hq, if_neg (by omega), if_neg (by omega), List.getElem?_eq_none (by omega)]
    have hset : (es.set i (splice row j xs)).length = es.length := by simp
    have hg' := setRow_heap w g cur (splice cur.toList (i * sz + j) vs).toArray e (0, 0) hg
    have ho' : (w.setRow g (splice cur.toList (i * sz + j) vs).toArray).ownsRow 0 e sz (.slice (some ⟨g, 0, none⟩) es.length cap) (es.set i (splice row j xs)).length (splice us (i * sz + j) vs) := by
      rw [hset]
      exact ⟨by rw [splice_len _ _ _ hlen, hul, hfl], .inr ⟨g, cap, _, rfl, Nat.zero_le _, hg', hnc, hcm, by rw [← hcs, ← Array.length_toList]; show (splice _ _ _).length = _; rw [splice_len _ _ _ (by simp; omega)]; simp, by simpa using hcur⟩⟩
    have hk : Kept (fun q => q ≠ g) w (w.setRow g (splice cur.toList (i * sz + j) vs).toArray) := ⟨rfl, rfl, rfl, by simp, fun k _ hk => setRow_other w g k _ hk⟩
    refine Rep.own (us := splice us (i * sz + j) vs) hi ?_ ho' ?_ ?_ ?_
    · intro x hx
      rcases List.mem_or_eq_of_mem_set hx with h1 | h1
      · exact hsz x h1
      · rw [h1, splice_len _ _ _ hj, hrl]
    · rw [flatten_set hsz hrow j xs hj, splice_len _ _ _ hlen, splice_len _ _ _ (by omega), hul]
    · rw [splice_len _ _ _ hlen, splice_len _ _ _ (by omega), hbl]
    · intro q u x b h1 h2 h3
      rw [flatten_set hsz hrow j xs hj, splice_get _ _ _ (by omega)] at h2
      rw [splice_get _ _ _ hlen] at h1
      rw [splice_get _ _ _ (by omega), hb1] at h3
      rw [← hx1] at h2
      have hgS : ∀ k, k < w.heap.size → S k → k ≠ g := fun k _ hk he => hap g (by simp) (he ▸ hk)
      have old : ∀ (u : Value) (x : AV) (b : List Nat), us[q]? = some u → es.flatten[q]? = some x → bss[q]? = some b → Rep P S (w.setRow g (splice cur.toList (i * sz + j) vs).toArray) b u x := fun u x b h1 h2 h3 =>
        (hc q u x b h1 h2 h3).kept hk hgS fun b' hb' he => hnd.1 (he ▸ List.mem_flatten.2 ⟨b, List.mem_of_getElem? h3, hb'⟩)
      split at h1
      · rename_i h5; rw [if_pos h5] at h2 h3; exact old u x b h1 h2 h3
      · rename_i h5
        rw [if_neg h5] at h2 h3
        split at h1
        · rename_i h6
          rw [if_pos h6] at h2 h3
          refine (hr _ u x b h1 h2 h3).kept hk hgS fun b' hb' he => hbv b' (List.mem_flatten.2 ⟨b, List.mem_of_getElem? h3, hb'⟩) (by simp [he])
        · rename_i h6; rw [if_neg h6] at h2 h3; exact old u x b h1 h2 h3
  · have hsp : (splice bss (i * sz + j) bvs).flatten = (bss.take (i * sz + j)).flatten ++ bvs.flatten ++ (bss.drop (i * sz + j + bvs.length)).flatten := by unfold splice; simp
    have hsplit : bss.flatten = (bss.take (i * sz + j)).flatten ++ (((bss.drop (i * sz + j)).take bvs.length).flatten ++ (bss.drop (i * sz + j + bvs.length)).flatten) := by
      rw [← List.flatten_append, ← List.flatten_append]
      congr 1
      generalize i * sz + j = p
      have e1 : bss.drop (p + bvs.length) = (bss.drop p).drop bvs.length := by rw [List.drop_drop]
      rw [e1, List.take_append_drop, List.take_append_drop]
    have hn0 := hnd.2
    rw [hsplit, List.nodup_append, List.nodup_append] at hn0
    obtain ⟨n1, ⟨-, n2, -⟩, n3'⟩ := hn0
    have n3 : ∀ a ∈ (bss.take (i * sz + j)).flatten, ∀ b ∈ (bss.drop (i * sz + j + bvs.length)).flatten, a ≠ b := fun a ha b hb => n3' a ha b (List.mem_append_right _ hb)
    have hb2 : ∀ b ∈ bvs.flatten, b ∉ bss.flatten := fun b hb h => hbv b hb (by simp only [List.mem_append]; exact .inr h)
    have m1 : ∀ b ∈ (bss.take (i * sz + j)).flatten, b ∈ bss.flatten := fun b hb => by rw [hsplit]; exact List.mem_append_left _ hb
    have m2 : ∀ b ∈ (bss.drop (i * sz + j + bvs.length)).flatten, b ∈ bss.flatten := fun b hb => by rw [hsplit]; exact List.mem_append_right _ (List.mem_append_right _ hb)
    rw [List.singleton_append, List.nodup_cons, hsp]
    refine ⟨fun h => ?_, ?_⟩
    · rcases List.mem_append.1 h with h | h
      · rcases List.mem_append.1 h with h | h
        · exact hnd.1 (m1 g h)
        · exact hbv g h (by simp)
      · exact hnd.1 (m2 g h)
    · rw [List.nodup_append, List.nodup_append]
      refine ⟨⟨n1, hbn, fun a ha b hb he => ?_⟩, n2, fun a ha b hb he => ?_⟩
      · subst he; exact hb2 a hb (m1 a ha)
      · subst he
        rcases List.mem_append.1 ha with h | h
        · exact n3 a h a hb rfl
        · exact hb2 a h (m2 a hb)
  · intro b hb
    rcases List.mem_append.1 hb with h | h
    · exact .inl (List.mem_append_left _ h)
    · have hsp : (splice bss (i * sz + j) bvs).flatten = (bss.take (i * sz + j)).flatten ++ bvs.flatten ++ (bss.drop (i * sz + j + bvs.length)).flatten := by unfold splice; simp
      rw [hsp] at h
      have sub : ∀ l : List (List Nat), (∀ x ∈ l, x ∈ bss) → b ∈ l.flatten → b ∈ bss.flatten := fun l hl hb => by
        obtain ⟨y, h1, h2⟩ := List.mem_flatten.1 hb
        exact List.mem_flatten.2 ⟨y, hl y h1, h2⟩
      rcases List.mem_append.1 h with h | h
      · rcases List.mem_append.1 h with h | h
        · exact .inl (List.mem_append_right _ (sub _ (fun x hx => List.mem_of_mem_take hx) h))
        · exact .inr h
      · exact .inl (List.mem_append_right _ (sub _ (fun x hx => List.mem_of_mem_drop hx) h))

section
variable {C : Cx} {o : Oper} {ev : Operand → AV} {T : Sl}
theorem run_store_at {P : Program} {t : TypeId} {n : Nat} (hs : sizeIs P t n) (g oo : Nat) (e : TypeId) (cur : Array Value) (u : Value) (w : World) (hg : w.heap[g]? = some (.cells cur e (0, 0))) (hl : u.cells.size = n) (hfit : oo + u.cells.size ≤ cur.size) (h1 : ∀ v ∈ u.cells.toList, v.oneCell' = true) :
    (Instr.storeAt t (.pointer (some ⟨g, oo, none⟩)) u).run P w = .ok () (w.setRow g (cur.toList.take oo ++ u.cells.toList ++ cur.toList.drop (oo + u.cells.toList.length)).toArray) := by
  have := run_storeCells_at P g oo e u.cells.toList 0 cur w hg (by simpa using hfit) h1
  simp only [Nat.add_zero] at this
  simp [Instr.storeAt, Instr.sureAddr, storeVar, run_sizeOf hs, hl, this]
theorem op_store {t : TypeId} {y z : Operand} {x : AV} {r k i j n : Nat} {e : TypeId} {es : List (List AV)} {row xs : List AV} (ho : o.op = .store t y z) (hy : ev y = .ptr r k i j) (hz : ev z = x) (hT : T.slots[r]? = some (k, .own e es)) (hrow : es[i]? = some row) (hx : rowOf x = some xs) (hs : sizeIs C.P t n) (hn : xs.length = n) (hj : j + xs.length ≤ row.length)
    {es' : List (List AV)} (he : es.set i (splice row j xs) = es') : OpJ C o ev T .any ⟨T.slots.set r (k, .own e es'), T.ep⟩ := by
  intro a w S vals bss hm h K hK Q
  have h1 := h y (by simp [ho, Op.operands])
  have h2 := h z (by simp [ho, Op.operands])
  rw [hy] at h1
  rw [hz] at h2
  obtain ⟨v, bs, hv, hb, hrep⟩ := hm.slot hT
  have hrl := h2.row hx
  obtain ⟨g, cap, cur, sz, bs', hve, hg, hsz, hfit, hgb, hrep', hnd', hsub⟩ := hrep.own_set (hm.nodup r bs hb) (hm.apart r bs hb) hrow (vs := (a.eval z).cells.toList) (xs := xs) (bvs := List.replicate xs.length []) (by simp only [List.length_replicate]; exact hrl.1.symm) hrl.1 (fun q u x b h1 h2 h3 => by
    have : b = [] := by rw [List.getElem?_replicate] at h3; split at h3 <;> simp_all
    subst this
    exact hrl.2 q u x h1 h2) (by simp) (by simp) hj
  obtain ⟨hil, g', n', cap', hve', hae⟩ := h1.2.2 e es v sz hT hv hsz
  rw [hve] at hve'
  injection hve' with e1 e2 e3
  injection e1 with e1
  injection e1 with e1
  subst e1
  have hrun := run_store_at (P := C.P) hs g (i * sz + j) e cur (a.eval z) w hg (by rw [← hn, ← hrl.1]; simp) (by simpa using hfit) fun u hu => by
    obtain ⟨q, hq, rfl⟩ := List.getElem_of_mem hu
    exact (hrl.2 q _ (xs[q]'(by rw [← hrl.1]; exact hq)) (List.getElem?_eq_getElem _) (List.getElem?_eq_getElem _)).one
  have hk : Kept (fun q => q ∉ bs) w (w.setRow g (cur.toList.take (i * sz + j) ++ (a.eval z).cells.toList ++ cur.toList.drop (i * sz + j + (a.eval z).cells.toList.length)).toArray) := ⟨rfl, rfl, rfl, by simp, fun k _ hk' => setRow_other w g k _ (fun e => hk' (e ▸ hgb))⟩
  rw [he] at hrep'
  obtain ⟨hm', hf⟩ := hm.set (k' := k) (ep' := T.ep) hT hv hb hk hrep' hnd' (fun b hb' => .inl ((hsub b hb').resolve_right (by simp))) (.inl ⟨rfl, rfl, rfl, fun e' es'' h => by
    injection h with h3 h4
    subst h3; subst h4
    exact ⟨es, rfl, by rw [← he]; simp⟩, fun b ks h => by cases h⟩)
  unfold Oper.wp execOp
  simp only [ho, hae, hrun, Sem.run_bind, Result.andThen_ok, Sem.run_pure, Oper.upon_skip]
  exact hK undef _ _ _ _ hm' hf trivial
end
end Go.Proofs.Ytjgbbffcjbmjmaa
namespace Go.Proofs.Ytjgbbffcjbmjmaa
open Go.RowKit
set_option linter.unusedSimpArgs false
set_option linter.unusedVariables false

section
variable {C : Cx} {o : Oper} {ev : Operand → AV} {T : Sl}
theorem rl_foldl {P : Program} {S : Nat → Prop} {w : World} (f : Nat → Nat) : ∀ (vs : List (Nat × Value)) (xs : List (Nat × List AV)) (us : List Value) (as : List AV), RL (fun u x => u.1 = x.1 ∧ RL (Rep P S w []) u.2.cells.toList x.2) vs xs → RL (Rep P S w []) us as →
    RL (Rep P S w []) (vs.foldl (fun cs p => splice cs (f p.1) p.2.cells.toList) us) (xs.foldl (fun cs p => splice cs (f p.1) p.2) as)
  | [], xs, us, as, h, h' => by
    have : xs = [] := List.eq_nil_of_length_eq_zero h.1.symm
    subst this; exact h'
  | v :: vs, [], us, as, h, h' => by have := h.1; simp at this
  | v :: vs, x :: xs, us, as, h, h' => by
    obtain ⟨v', vs', e, ⟨h1, h2⟩, h3⟩ := h.cons_inv
    injection e with e1 e2
    subst e1; subst e2
    rw [List.foldl_cons, List.foldl_cons, h1]
    exact rl_foldl f vs xs _ _ h3 (h'.spl h2 _)
def evP (a : Act) (ps : Array (Nat × Operand)) : Array (Nat × Value) := ps.map fun (i, x) => (i, a.eval x)
/-- The parts of a literal. -/
theorem parts_rl {a : Act} {w : World} {S : Nat → Prop} {vals : List Value} {ps : Array (Nat × Operand)} {rows : List (Nat × List AV)} (h : ∀ y ∈ (ps.toList.map (·.2)), TmpOK C.P S w T vals (a.eval y) (ev y)) (hp : ps.toList.map (fun p => (p.1, rowOf (ev p.2))) = rows.map (fun p => (p.1, some p.2))) :
    RL (fun (u : Nat × Value) (x : Nat × List AV) => u.1 = x.1 ∧ RL (Rep C.P S w []) u.2.cells.toList x.2) (evP a ps).toList rows := by
  refine ⟨by have := congrArg List.length hp; simpa [evP] using this, fun i u x hu hx => ?_⟩
  simp only [evP, Array.toList_map, List.getElem?_map] at hu
  cases hq : ps.toList[i]? with
  | none => rw [hq] at hu; cases hu
  | some q =>
    rw [hq] at hu
    simp at hu
    have h1 := congrArg (·[i]?) hp
    simp only [List.getElem?_map, hq, hx, Option.map_some, Option.some.injEq] at h1
    injection h1 with h1 h2
    rw [← hu]
    exact ⟨h1, (h q.2 (List.mem_map.2 ⟨q, List.mem_of_getElem? hq, rfl⟩)).row h2⟩
theorem op_buildSlice {t e : TypeId} {n sz b : Nat} {z : Value} {ps : Array (Nat × Operand)} (ho : o.op = .buildSlice t n ps) (rows : List (Nat × List AV)) (es : List (List AV)) (ht : C.P.underlying t = some (.slice e)) (hz : zeroIs C.P e z sz b)
    (hp : ps.toList.map (fun p => (p.1, rowOf (ev p.2))) = rows.map (fun p => (p.1, some p.2))) (hr : ∀ p ∈ rows, p.2.length = sz ∧ p.1 * sz + sz ≤ n * sz) (hes : rows.foldl (fun cs p => splice cs (p.1 * sz) p.2) (List.replicate (n * sz) .any) = es.flatten) (hs : ∀ x ∈ es, x.length = sz) (hn : es.length = n) (hm : n * sz ≤ 2 ^ 24) (hml : n ≤ maxLen) :
    OpJ C o ev T (.sl T.slots.length T.ep 0 n) (pushT T (.own e es)) := by
  subst hn
  refine op_new_sl hz.size hs hml fun a w S vals bss hm' h => ?_
  have hrl := parts_rl (C := C) (T := T) (fun y hy => h y (by simpa [ho, Op.operands] using hy)) hp
  have hzr := hz.run w
  have hsz := run_sizeOf (P := C.P) hz.size w
  have hsz2 : z.cells.size = sz := hz.2.1
  obtain ⟨init, hi, hil⟩ : ∃ init : Array Value, init = ((Array.range (es.length * sz)).map ((if es.length * sz = 0 then #[] else z.cells)[· % (if es.length * sz = 0 then #[] else z.cells).size]!)) ∧ RL (Rep C.P S w []) init.toList (List.replicate (es.length * sz) .any) := by
    refine ⟨_, rfl, by simp, fun i u x hu hx => ?_⟩
    rw [List.getElem?_replicate] at hx
    split at hx
    · injection hx with hx
      subst hx
      rename_i hlt
      have h0 : ¬ es.length * sz = 0 := by omega
      simp only [Array.toList_map, List.getElem?_map, if_neg h0] at hu
      have hlt2 : i < (Array.range (es.length * sz)).toList.length := by simpa using hlt
      rw [List.getElem?_eq_getElem hlt2] at hu
      simp at hu
      have hsp : 0 < sz := by rcases Nat.eq_zero_or_pos sz with h | h <;> simp_all
      have hmod : i % z.cells.size < z.cells.size := Nat.mod_lt _ (by omega)
      rw [getElem!_pos z.cells _ hmod] at hu
      rw [← hu]
      exact .any (Array.all_eq_true_iff_forall_mem.1 hz.2.2 _ (Array.getElem_mem hmod))
    · cases hx
  have hfill := fill_run (fun i => some (i * sz, sz)) (evP a ps).toList init fun p hp => by
    obtain ⟨i, hi', rfl⟩ := List.getElem_of_mem hp
    have hi2 : i < rows.length := by rw [← hrl.1]; exact hi'
    obtain ⟨e1, e2⟩ := hrl.2 i _ _ (List.getElem?_eq_getElem hi') (List.getElem?_eq_getElem hi2)
    obtain ⟨e3, e4⟩ := hr rows[i] (List.getElem_mem hi2)
    have e5 : (evP a ps).toList[i].2.cells.size = sz := by rw [← e3, ← e2.1]; simp
    refine ⟨_, by rw [e5], ?_⟩
    rw [e5, e1]
    have := hil.1
    simp at this
    omega
  refine ⟨(evP a ps).toList.foldl (fun cs p => splice cs (p.1 * sz) p.2.cells.toList) init.toList, ?_, ?_⟩
  · have hm2 : ¬ 16777216 < es.length * sz := by omega
    subst hi
    have he : execOp a.eval o = (do let v ← Instr.buildSlice t es.length (evP a ps); pure (Next.value v) : Sem Next) := by simp only [execOp, ho]; rfl
    rw [he]
    by_cases h0 : es.length * sz = 0
    · simp only [h0, if_true, Array.range_zero', Array.map_empty] at hfill
      simp [Instr.buildSlice, run_underlying ht, hsz, h0, Array.range_zero', hfill, newRow]
    · simp only [h0, if_false] at hfill
      simp [Instr.buildSlice, run_underlying ht, hsz, h0, hm2, hzr, hfill, newRow]
  · rw [← hes]
    exact rl_foldl (fun i => i * sz) _ _ _ _ hrl hil
/-- The cells of a datum, references and all. -/
def rowR : AV → Option (List AV)
  | .agg cs => some cs
  | .tup _ => none
  | .any => none
  | x => some [x]
theorem TmpOK.rowR {P : Program} {S : Nat → Prop} {w : World} {vals : List Value} {u : Value} {x : AV} {row : List AV} (h : TmpOK P S w T vals u x) (hr : rowR x = some row) : RL (RefOK P S w T vals) u.cells.toList row := by
  cases x with
  | agg cs =>
    obtain ⟨us, rfl, r⟩ := h.agg
    simp [Go.Proofs.Ytjgbbffcjbmjmaa.rowR] at hr
    subst hr
    exact r
  | tup => cases hr
  | any => cases hr
  | _ =>
    simp only [Go.Proofs.Ytjgbbffcjbmjmaa.rowR, Option.some.injEq] at hr
    simp only [TmpOK, AggOK] at h
    subst hr
    have h1 := RefOK.one h
    have h2 : u.cells.toList = [u] := by cases u <;> first | rfl | cases h1
    rw [h2]
    exact RL.cons h RL.nil
theorem rl_foldl_ref {P : Program} {S : Nat → Prop} {w : World} {vals : List Value} (f : Nat → Nat) : ∀ (vs : List (Nat × Value)) (xs : List (Nat × List AV)) (us : List Value) (as : List AV), RL (fun u x => u.1 = x.1 ∧ RL (RefOK P S w T vals) u.2.cells.toList x.2) vs xs → RL (RefOK P S w T vals) us as →
    RL (RefOK P S w T vals) (vs.foldl (fun cs p => splice cs (f p.1) p.2.cells.toList) us) (xs.foldl (fun cs p => splice cs (f p.1) p.2) as)
  | [], xs, us, as, h, h' => by
    have : xs = [] := List.eq_nil_of_length_eq_zero h.1.symm
    subst this; exact h'
  | v :: vs, [], us, as, h, h' => by have := h.1; simp at this
  | v :: vs, x :: xs, us, as, h, h' => by
    obtain ⟨v', vs', e, ⟨h1, h2⟩, h3⟩ := h.cons_inv
    injection e with e1 e2
    subst e1; subst e2
    rw [List.foldl_cons, List.foldl_cons, h1]
    exact rl_foldl_ref f vs xs _ _ h3 (h'.spl h2 _)
theorem op_build {t : TypeId} {n b : Nat} {z : Value} {ps : Array (Nat × Operand)} {fs : Array Field} {pl : List (Nat × Nat)} (ho : o.op = .build t ps) (rows : List (Nat × List AV)) (ht : C.P.underlying t = some (.struct fs)) (hpl : fs.toList.mapM (fun f => (C.P.info? f.type).map fun i => (f.offset, i.size)) = some pl) (hz : zeroIs C.P t z n b)
    (hp : ps.toList.map (fun p => (p.1, rowR (ev p.2))) = rows.map (fun p => (p.1, some p.2))) (hr : rows.all (fun p => match pl[p.1]? with | some (off, sz) => p.2.length == sz && off + sz ≤ n | none => false) = true) {xs : List AV} (hx : rows.foldl (fun cs p => splice cs ((pl[p.1]?).getD (0, 0)).1 p.2) (z.cells.toList.map .v) = xs) :
    OpP C o ev T (.agg xs) := by
  intro a w S vals bss hm h
  have hrl : RL (fun (u : Nat × Value) (x : Nat × List AV) => u.1 = x.1 ∧ RL (RefOK C.P S w T vals) u.2.cells.toList x.2) (evP a ps).toList rows := by
    refine ⟨by have := congrArg List.length hp; simpa [evP] using this, fun i u x hu hx => ?_⟩
    simp only [evP, Array.toList_map, List.getElem?_map] at hu
    cases hq : ps.toList[i]? with
    | none => rw [hq] at hu; cases hu
    | some q =>
      rw [hq] at hu
      simp at hu
      have h1 := congrArg (·[i]?) hp
      simp only [List.getElem?_map, hq, hx, Option.map_some, Option.some.injEq] at h1
      injection h1 with h1 h2
      rw [← hu]
      exact ⟨h1, (h q.2 (by simp [ho, Op.operands]; exact ⟨q.1, Array.mem_toList_iff.1 (List.mem_of_getElem? hq)⟩)).rowR h2⟩
  have hfill := fill_run (pl.toArray[·]?) (evP a ps).toList z.cells fun p hp => by
    obtain ⟨i, hi', rfl⟩ := List.getElem_of_mem hp
    have hi2 : i < rows.length := by rw [← hrl.1]; exact hi'
    obtain ⟨e1, e2⟩ := hrl.2 i _ _ (List.getElem?_eq_getElem hi') (List.getElem?_eq_getElem hi2)
    have h3 := List.all_eq_true.1 hr rows[i] (List.getElem_mem hi2)
    rw [e1]
    cases hq : pl[rows[i].1]? with
    | none => rw [hq] at h3; cases h3
    | some q =>
      rw [hq] at h3
      simp only [Bool.and_eq_true, beq_iff_eq, decide_eq_true_eq] at h3
      have e5 : (evP a ps).toList[i].2.cells.size = q.2 := by rw [← h3.1, ← e2.1]; simp
      refine ⟨q.1, by rw [e5]; simp [hq], ?_⟩
      rw [e5, hz.2.1]; exact h3.2
  have hf2 := rl_foldl_ref (T := T) (P := C.P) (S := S) (w := w) (vals := vals) (fun i => ((pl[i]?).getD (0, 0)).1) _ _ _ _ hrl (hz.rl.mono fun u x h => Rep.ref (T := T) (vals := vals) h)
  rw [hx] at hf2
  refine ⟨.agg ((evP a ps).toList.foldl (fun cs p => splice cs ((pl[p.1]?).getD (0, 0)).1 p.2.cells.toList) z.cells.toList).toArray, fun w => ?_, ⟨_, rfl, hf2⟩⟩
  have he : execOp a.eval o = (do let v ← Instr.build t (evP a ps); pure (Next.value v) : Sem Next) := by simp only [execOp, ho]; rfl
  have hpl' := run_places (P := C.P) w fs.toList pl hpl
  have hpl2 : (fs.mapM fun f => do let s ← sizeOf f.type; pure (f.offset, s) : Sem (Array (Nat × Nat))).run C.P w = .ok pl.toArray w := by
    rw [Array.mapM_eq_mapM_toList]
    simp [hpl']
  rw [he]
  have hfill' : Instr.fill (fun x => pl.toArray[x]?) z.cells (evP a ps).toList = _ := hfill
  simp only [Instr.build, Sem.run_bind, hz.run, run_underlying ht, Result.andThen_ok, hpl2, hfill', Sem.run_pure]
  simp
end
end Go.Proofs.Ytjgbbffcjbmjmaa
