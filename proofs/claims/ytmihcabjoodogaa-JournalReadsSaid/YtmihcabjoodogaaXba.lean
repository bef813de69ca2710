import Derived.WalkKit
import Derived.WalkLawsBesides
import Derived.WalkSpells
import Derived.Deep.QuietTactic
import Derived.BigQuiet
import Derived.Lib.Hide
import Derived.Deep.Draws
import Derived.Maps.AppendAt
import Derived.Maps.Own
import Derived.Maps.OwnSet
import Derived.Carry
import Derived.DeepKeys4
import Derived.Deep.AppendLies
import Derived.RegionTactic
import Derived.OwnWalk
import Derived.Deep.DeepFit
import Derived.Deep.DeepMust
import Derived.StillTailTactics
import Derived.Deep.RegionLaw
import Derived.Deep.RegionHeld3
import Derived.ArgAppend
namespace Go.Proofs.Ytmihcabjoodogaa
theorem bl {a b : Nat} (h : Nat.ble a b = true) : a ≤ b := Nat.le_of_ble_eq_true h
open Go.RowKit
set_option linter.unusedSimpArgs false
set_option linter.unusedVariables false
structure Kept (S : Nat → Prop) (w w' : World) : Prop where
  os : w'.os = w.os
  tape : w'.tape = w.tape
  output : w'.output = w.output
  size : w.heap.size ≤ w'.heap.size
  block : ∀ k, k < w.heap.size → S k → w'.heap[k]? = w.heap[k]?
theorem Kept.refl (S : Nat → Prop) (w : World) : Kept S w w := ⟨rfl, rfl, rfl, Nat.le_refl _, fun _ _ _ => rfl⟩
theorem Kept.trans {S : Nat → Prop} {a b c : World} (h : Kept S a b) (k : Kept S b c) : Kept S a c :=
  ⟨k.os.trans h.os, k.tape.trans h.tape, k.output.trans h.output, Nat.le_trans h.size k.size, fun i hi hs => (k.block i (Nat.lt_of_lt_of_le hi h.size) hs).trans (h.block i hi hs)⟩
theorem Kept.mono {S S' : Nat → Prop} {a b : World} (h : Kept S a b) (hs : ∀ k, k < a.heap.size → S' k → S k) : Kept S' a b :=
  ⟨h.os, h.tape, h.output, h.size, fun i hi hk => h.block i hi (hs i hi hk)⟩
theorem Kept.drew {S : Nat → Prop} {a w : World} (h : Kept S a w) : Kept S a w.drew := ⟨h.os, h.tape, h.output, h.size, h.block⟩
theorem Kept.alloc {S : Nat → Prop} {a w : World} (h : Kept S a w) (o : Obj) : Kept S a (w.alloc o) :=
  h.trans ⟨rfl, rfl, rfl, by simp, fun k hk _ => Below.heap_alloc _ _ _ hk⟩
theorem Kept.grown {S : Nat → Prop} {a w w' : World} (h : Kept S a w) {row : Option Nat} (hg : w.grownBy w' row) (hr : ∀ k, row = some k → ¬ S k ∨ a.heap.size ≤ k) : Kept S a w' :=
  ⟨hg.os.trans h.os, hg.tape.trans h.tape, hg.output.trans h.output, Nat.le_trans h.size hg.size, fun k hk hs => (hg.block k (Nat.lt_of_lt_of_le hk h.size) (by
    rintro rfl
    rcases hr k rfl with hp | hp
    · exact hp hs
    · omega)).trans (h.block k hk hs)⟩
theorem Kept.below {w w' : World} (h : Kept (fun _ => True) w w') : Below w.heap.size w w' := ⟨h.os, h.tape, h.output, h.size, fun k hk => h.block k hk trivial⟩
theorem Kept.cell {S : Nat → Prop} {w w' : World} (h : Kept S w w') {p : Addr} {v : Value} (hp : w.cell? p = some v) (hs : S p.block) : w'.cell? p = some v :=
  (World.cell?_of_block (h.block p.block (World.block_lt_of_cell? w p hp) hs)).trans hp
theorem Kept.then {S T : Nat → Prop} {a b c : World} (h : Kept S a b) (k : Kept T b c) (hT : ∀ i, i < a.heap.size → S i → T i) : Kept S a c :=
  ⟨k.os.trans h.os, k.tape.trans h.tape, k.output.trans h.output, Nat.le_trans h.size k.size, fun i hi hs => (k.block i (Nat.lt_of_lt_of_le hi h.size) (hT i hi hs)).trans (h.block i hi hs)⟩
/-- Pieces of data as a walk knows them. -/
inductive AV where
  | any
  | v (x : Value)
  | sln (n : Nat)
  | ro (es : List (List AV))
  | rof (es : List (List AV))
  | rop (cs : List AV)
  | own (e : TypeId) (es : List (List AV))
  | om (b : Nat) (ks : List Value)
  | agg (cs : List AV)
  | tup (cs : List AV)
  | sl (r k off len : Nat)
  | ptr (r k i j : Nat)
  | mp (r k : Nat)
  | nm (u : Value) (e : TypeId) (es : List (List AV))
  | byt (u : Value) (e : TypeId) (us : List Value)
  | clo (f : FuncId) (caps : List AV)
  | bm (f : FuncId) (cs : List AV)
  deriving Inhabited
/-- The cells us lie from the address on, in one block of which S holds. -/
def Rd (S : Nat → Prop) (w : World) (A : Option Addr) (us : List Value) : Prop :=
  0 < us.length → ∃ g o, A = some ⟨g, o, none⟩ ∧ S g ∧ ∀ j u, us[j]? = some u → w.cell? ⟨g, o + j, none⟩ = some u
theorem Rd.kept {S : Nat → Prop} {w w' : World} {A : Option Addr} {us : List Value} (h : Rd S w A us) (hk : Kept S w w') : Rd S w' A us := fun hn => by
  obtain ⟨g, o, e, hb, hc⟩ := h hn
  exact ⟨g, o, e, hb, fun j u hu => hk.cell (hc j u hu) hb⟩
theorem Rd.mono {S S' : Nat → Prop} {w : World} {A : Option Addr} {us : List Value} (h : Rd S w A us) (hs : ∀ k, k < w.heap.size → S k → S' k) : Rd S' w A us := fun hn => by
  obtain ⟨g, o, e, hb, hc⟩ := h hn
  have h0 := hc 0 us[0] (List.getElem?_eq_getElem hn)
  exact ⟨g, o, e, hs _ (World.block_lt_of_cell? w _ h0) hb, hc⟩
def sizeIs (P : Program) (e : TypeId) (sz : Nat) : Prop := (P.info? e).map (·.size) = some sz
theorem sizeIs.inj {P : Program} {e : TypeId} {a b : Nat} (h : sizeIs P e a) (h' : sizeIs P e b) : a = b := by
  unfold sizeIs at h h'; rw [h] at h'; injection h'
/-- How an element of a set reads, and as what: a map to bool, or to struct{}. -/
def setEl (P : Program) (e : TypeId) : Value → Option (DataW Unit × List MemPlace) := match P.underlying e with | some .bool => plainElem P e | _ => unitElem
def setEv (P : Program) (e : TypeId) : DataW Unit := match P.underlying e with | some .bool => .lit (.bool true) | _ => .agg []
/-- The datum of a set of keys. -/
def setD (P : Program) (k e : TypeId) : List Value → DataW Unit
  | [] => .map []
  | x :: ks => (setD P k e ks).put ((keyOf P k x).getD (.bool false)) (setEv P e)
/-- How a cell stands for a piece of data; bs: the blocks that it owns. -/
inductive Rep (P : Program) (S : Nat → Prop) (w : World) : List Nat → Value → AV → Prop
  | any {u} (h : u.oneCell' = true) : Rep P S w [] u .any
  | v {u} (h : u.oneCell' = true) : Rep P S w [] u (.v u)
  | sln {A n c} (h1 : n ≤ c) (h2 : c ≤ maxLen) : Rep P S w [] (.slice A n c) (.sln n)
  | ro {A c sz es} {us : List Value} (h1 : es.length ≤ c) (h2 : c ≤ maxLen) (hs : ∀ e ∈ es, e.length = sz) (hr : Rd S w A us)
      (hl : us.length = es.flatten.length) (hc : ∀ (i : Nat) (u : Value) (x : AV), us[i]? = some u → es.flatten[i]? = some x → Rep P S w [] u x) : Rep P S w [] (.slice A es.length c) (.ro es)
  | rof {A sz es} {us : List Value} (h2 : es.length ≤ maxLen) (hs : ∀ e ∈ es, e.length = sz) (hr : Rd S w A us)
      (hl : us.length = es.flatten.length) (hc : ∀ (i : Nat) (u : Value) (x : AV), us[i]? = some u → es.flatten[i]? = some x → Rep P S w [] u x) : Rep P S w [] (.slice A es.length es.length) (.rof es)
  | rop {A} {us : List Value} {cs : List AV} (hr : Rd S w (some A) us) (hl : us.length = cs.length) (hc : ∀ (i : Nat) (u : Value) (x : AV), us[i]? = some u → cs[i]? = some x → Rep P S w [] u x) : Rep P S w [] (.pointer (some A)) (.rop cs)
  | own {v e es} {us : List Value} {sz} {bss : List (List Nat)} (hi : sizeIs P e sz) (hs : ∀ x ∈ es, x.length = sz) (ho : w.ownsRow 0 e sz v es.length us) (hl : us.length = es.flatten.length) (hb : bss.length = us.length)
      (hc : ∀ (i : Nat) (u : Value) (x : AV) (bs : List Nat), us[i]? = some u → es.flatten[i]? = some x → bss[i]? = some bs → Rep P S w bs u x) : Rep P S w (v.ownBlock.toList ++ bss.flatten) v (.own e es)
  | om {t k e b n ks} (ht : P.underlying t = some (.map k e)) (K : Go.Maps.Keyed P k) (hk : ∀ x ∈ ks, ∃ kl, keyOf P k x = some kl) (h : w.ownsMap (H := Unit) P k (setEl P e) b n (setD P k e ks)) (hn : n ≤ ks.length) : Rep P S w [b] (.map (some b)) (.om t ks)
  | nm {v e es bs} (h : Rep P S w bs v (.own e es)) : Rep P S w bs v (.nm v e es)
  | byt {g c e fr us} {cur : Array Value} (hg : w.heap[g]? = some (.cells cur e fr)) (hf : fr.1 = cur.size) (hc : cur.size = c) (ht : cur.toList.take us.length = us) (ho : ∀ u ∈ us, u.oneCell' = true) (h1 : us.length ≤ c) (h2 : c ≤ maxLen) : Rep P S w [g] (.slice (some ⟨g, 0, none⟩) us.length c) (.byt (.slice (some ⟨g, 0, none⟩) us.length c) e us)
  | clo {f caps} {us : List Value} (hl : us.length = caps.length) (hc : ∀ (i : Nat) (u : Value) (x : AV), us[i]? = some u → caps[i]? = some x → Rep P S w [] u x) : Rep P S w [] (.func (.func f) #[] us.toArray) (.clo f caps)
  | bm {f cs} {us : List Value} (hl : us.length = cs.length) (hc : ∀ (i : Nat) (u : Value) (x : AV), us[i]? = some u → cs[i]? = some x → Rep P S w [] u x) : Rep P S w [] (.func (.func f) #[.agg us.toArray] #[]) (.bm f cs)
theorem ownsRow_one {w : World} {e : TypeId} {sz : Nat} {v : Value} {n : Nat} {us : List Value} (h : w.ownsRow 0 e sz v n us) : v.oneCell' = true := by
  rcases h.2 with ⟨rfl, _⟩ | ⟨_, _, _, rfl, _⟩ <;> rfl
theorem Rep.one {P : Program} {S : Nat → Prop} {w : World} {bs : List Nat} {u : Value} {x : AV} (h : Rep P S w bs u x) : u.oneCell' = true := by
  cases h with
  | any h => exact h
  | v h => exact h
  | sln => rfl
  | ro => rfl
  | rof => rfl
  | rop => rfl
  | clo => rfl
  | bm => rfl
  | own hi hs ho => exact ownsRow_one ho
  | om => rfl
  | byt => rfl
  | nm h => cases h with
    | own hi hs ho => exact ownsRow_one ho
theorem ownsRow_kept {S : Nat → Prop} {w w' : World} {e : TypeId} {sz : Nat} {v : Value} {n : Nat} {us : List Value} (h : w.ownsRow 0 e sz v n us) (hk : Kept S w w') (hb : ∀ b, v.ownBlock = some b → S b) : w'.ownsRow 0 e sz v n us := by
  refine ⟨h.1, ?_⟩
  rcases h.2 with hn | ⟨g, cap, cur, rfl, hb', hg, rest⟩
  · exact .inl hn
  · exact .inr ⟨g, cap, cur, rfl, hb', (hk.block g (Array.getElem?_eq_some_iff.1 hg).1 (hb g rfl)).trans hg, rest⟩
theorem Rep.kept {P : Program} {S T : Nat → Prop} {w w' : World} {bs : List Nat} {u : Value} {x : AV} (h : Rep P S w bs u x) (hk : Kept T w w') (hS : ∀ k, k < w.heap.size → S k → T k) (hb : ∀ b ∈ bs, T b) : Rep P S w' bs u x := by
  induction h with
  | any h => exact .any h
  | v h => exact .v h
  | sln h1 h2 => exact .sln h1 h2
  | ro h1 h2 hs hr hl hc ih => exact .ro h1 h2 hs (hr.kept (hk.mono hS)) hl fun i u x hu hx => ih i u x hu hx (by simp)
  | rof h2 hs hr hl hc ih => exact .rof h2 hs (hr.kept (hk.mono hS)) hl fun i u x hu hx => ih i u x hu hx (by simp)
  | rop hr hl hc ih => exact .rop (hr.kept (hk.mono hS)) hl fun i u x hu hx => ih i u x hu hx (by simp)
  | clo hl hc ih => exact .clo hl fun i u x hu hx => ih i u x hu hx (by simp)
  | bm hl hc ih => exact .bm hl fun i u x hu hx => ih i u x hu hx (by simp)
  | own hi hs ho hl hbl hc ih =>
    refine .own hi hs (ownsRow_kept ho hk fun b h => hb b (by simp [h])) hl hbl fun i u x bs hu hx hbs => ih i u x bs hu hx hbs fun b hm => hb b ?_
    exact List.mem_append_right _ (List.mem_flatten.2 ⟨bs, List.mem_of_getElem? hbs, hm⟩)
  | om ht K hk' h hn =>
    refine .om ht K hk' ?_ hn
    obtain ⟨es, clock, h1, h2⟩ := h
    exact ⟨es, clock, (hk.block _ (Array.getElem?_eq_some_iff.1 h1).1 (hb _ (by simp))).trans h1, h2⟩
  | nm h ih => exact .nm (ih hb)
  | byt hg hf hc ht ho h1 h2 => exact .byt ((hk.block _ (Array.getElem?_eq_some_iff.1 hg).1 (hb _ (by simp))).trans hg) hf hc ht ho h1 h2
theorem Rep.mono {P : Program} {S S' : Nat → Prop} {w : World} {bs : List Nat} {u : Value} {x : AV} (h : Rep P S w bs u x) (hs : ∀ k, k < w.heap.size → S k → S' k) : Rep P S' w bs u x := by
  induction h with
  | any h => exact .any h
  | v h => exact .v h
  | sln h1 h2 => exact .sln h1 h2
  | ro h1 h2 hz hr hl hc ih => exact .ro h1 h2 hz (hr.mono hs) hl ih
  | rof h2 hz hr hl hc ih => exact .rof h2 hz (hr.mono hs) hl ih
  | rop hr hl hc ih => exact .rop (hr.mono hs) hl ih
  | clo hl hc ih => exact .clo hl ih
  | bm hl hc ih => exact .bm hl ih
  | own hi hz ho hl hbl hc ih => exact .own hi hz ho hl hbl ih
  | om ht K hk h hn => exact .om ht K hk h hn
  | nm h ih => exact .nm ih
  | byt hg hf hc ht ho h1 h2 => exact .byt hg hf hc ht ho h1 h2
theorem Rep.v_inv {P : Program} {S : Nat → Prop} {w : World} {bs : List Nat} {u x : Value} (h : Rep P S w bs u (.v x)) : u = x ∧ bs = [] ∧ u.oneCell' = true := by
  cases h with
  | v h => exact ⟨rfl, rfl, h⟩
theorem Rep.any_inv {P : Program} {S : Nat → Prop} {w : World} {bs : List Nat} {u : Value} (h : Rep P S w bs u .any) : bs = [] ∧ u.oneCell' = true := by
  cases h with
  | any h => exact ⟨rfl, h⟩
theorem Rep.ro_inv {P : Program} {S : Nat → Prop} {w : World} {bs : List Nat} {u : Value} {es : List (List AV)} (h : Rep P S w bs u (.ro es)) : bs = [] ∧ ∃ A c sz us, u = .slice A es.length c ∧ es.length ≤ c ∧ c ≤ maxLen ∧ (∀ e ∈ es, e.length = sz) ∧ Rd S w A us ∧ us.length = es.flatten.length ∧ ∀ (i : Nat) (u : Value) (x : AV), us[i]? = some u → es.flatten[i]? = some x → Rep P S w [] u x := by
  cases h with
  | ro h1 h2 h3 h4 h5 h6 => exact ⟨rfl, _, _, _, _, rfl, h1, h2, h3, h4, h5, h6⟩
theorem Rep.rof_inv {P : Program} {S : Nat → Prop} {w : World} {bs : List Nat} {u : Value} {es : List (List AV)} (h : Rep P S w bs u (.rof es)) : bs = [] ∧ ∃ A sz us, u = .slice A es.length es.length ∧ es.length ≤ maxLen ∧ (∀ e ∈ es, e.length = sz) ∧ Rd S w A us ∧ us.length = es.flatten.length ∧ ∀ (i : Nat) (u : Value) (x : AV), us[i]? = some u → es.flatten[i]? = some x → Rep P S w [] u x := by
  cases h with
  | rof h2 h3 h4 h5 h6 => exact ⟨rfl, _, _, _, rfl, h2, h3, h4, h5, h6⟩
theorem Rep.ro_of_rof {P : Program} {S : Nat → Prop} {w : World} {bs : List Nat} {u : Value} {es : List (List AV)} (h : Rep P S w bs u (.rof es)) : Rep P S w bs u (.ro es) := by
  obtain ⟨rfl, A, sz, us, rfl, h2, h3, h4, h5, h6⟩ := h.rof_inv
  exact .ro (Nat.le_refl _) h2 h3 h4 h5 h6
theorem Rep.rop_inv {P : Program} {S : Nat → Prop} {w : World} {bs : List Nat} {u : Value} {cs : List AV} (h : Rep P S w bs u (.rop cs)) : bs = [] ∧ ∃ A us, u = .pointer (some A) ∧ Rd S w (some A) us ∧ us.length = cs.length ∧ ∀ (i : Nat) (u : Value) (x : AV), us[i]? = some u → cs[i]? = some x → Rep P S w [] u x := by
  cases h with
  | rop h1 h2 h3 => exact ⟨rfl, _, _, rfl, h1, h2, h3⟩
theorem Rep.sln_inv {P : Program} {S : Nat → Prop} {w : World} {bs : List Nat} {u : Value} {n : Nat} (h : Rep P S w bs u (.sln n)) : bs = [] ∧ ∃ A c, u = .slice A n c ∧ n ≤ c ∧ c ≤ maxLen := by
  cases h with
  | sln h1 h2 => exact ⟨rfl, _, _, rfl, h1, h2⟩
theorem Rep.own_inv {P : Program} {S : Nat → Prop} {w : World} {bs : List Nat} {v : Value} {e : TypeId} {es : List (List AV)} (h : Rep P S w bs v (.own e es)) : ∃ (us : List Value) (sz : Nat) (bss : List (List Nat)), bs = v.ownBlock.toList ++ bss.flatten ∧ sizeIs P e sz ∧ (∀ x ∈ es, x.length = sz) ∧ w.ownsRow 0 e sz v es.length us ∧ us.length = es.flatten.length ∧ bss.length = us.length ∧ ∀ (i : Nat) (u : Value) (x : AV) (bs : List Nat), us[i]? = some u → es.flatten[i]? = some x → bss[i]? = some bs → Rep P S w bs u x := by
  cases h with
  | own h1 h2 h3 h4 h5 h6 => exact ⟨_, _, _, rfl, h1, h2, h3, h4, h5, h6⟩
theorem Rep.lt {P : Program} {S : Nat → Prop} {w : World} {bs : List Nat} {u : Value} {x : AV} (h : Rep P S w bs u x) : ∀ b ∈ bs, b < w.heap.size := by
  induction h with
  | own hi hz ho hl hbl hc ih =>
    intro b hb
    rcases List.mem_append.1 hb with h | h
    · exact (ho.lt b (by simpa [Option.mem_toList] using h)).2
    · obtain ⟨bs, h1, h2⟩ := List.mem_flatten.1 h
      obtain ⟨i, hi, rfl⟩ := List.getElem_of_mem h1
      have hiu := hbl ▸ hi
      exact ih i _ _ _ (List.getElem?_eq_getElem hiu) (List.getElem?_eq_getElem (hl ▸ hiu)) (List.getElem?_eq_getElem hi) b h2
  | nm h ih => exact ih
  | byt hg hf hc ht ho h1 h2 =>
    intro b hb
    obtain rfl : b = _ := by simpa using hb
    exact (Array.getElem?_eq_some_iff.1 hg).1
  | om ht K hk h hn =>
    intro b hb
    obtain rfl : b = _ := by simpa using hb
    exact h.lt
  | _ => intro b hb; simp at hb
structure Sl where
  slots : List (Nat × AV)
  ep : Nat
/-- What stays fixed while a function runs: the program; what may be read for good; the blocks and the slots that came in; the world at the start. -/
structure Cx where
  P : Program
  S0 : Nat → Prop
  own0 : List Nat
  v0 : List Value
  w0 : World
/-- How part of a slice that lies at v is spelled. -/
def SubS (sz : Nat) (v : Value) (off len : Nat) (u : Value) : Prop :=
  ∃ A n cap, v = .slice A n cap ∧ off + len ≤ n ∧ n ≤ cap ∧ cap ≤ maxLen ∧ ((off = 0 ∧ u = .slice A len cap) ∨
    (∃ A', 0 < off ∧ u = .slice A' len (cap - off) ∧ (0 < len → ∃ g, A = some ⟨g, 0, none⟩ ∧ A' = some ⟨g, off * sz, none⟩)))
def RefOK (P : Program) (S : Nat → Prop) (w : World) (T : Sl) (vals : List Value) (u : Value) : AV → Prop
  | .sl r k off len => k < T.ep ∧ u.oneCell' = true ∧ ∀ e es v sz, T.slots[r]? = some (k, .own e es) → vals[r]? = some v → sizeIs P e sz → off + len ≤ es.length ∧ SubS sz v off len u
  | .ptr r k i j => k < T.ep ∧ u.oneCell' = true ∧ ∀ e es v sz, T.slots[r]? = some (k, .own e es) → vals[r]? = some v → sizeIs P e sz → i < es.length ∧ ∃ g n cap, v = .slice (some ⟨g, 0, none⟩) n cap ∧ u = .pointer (some ⟨g, i * sz + j, none⟩)
  | .mp r k => k < T.ep ∧ u.oneCell' = true ∧ ∀ b ks v, T.slots[r]? = some (k, .om b ks) → vals[r]? = some v → u = v
  | .nm _ _ _ => u.oneCell' = true
  | .byt _ _ _ => u.oneCell' = true
  | .om _ _ => u.oneCell' = true
  | x => Rep P S w [] u x
/-- Two lists, side by side. -/
def RL {α β : Type} (R : α → β → Prop) (us : List α) (xs : List β) : Prop := us.length = xs.length ∧ ∀ (i : Nat) (u : α) (x : β), us[i]? = some u → xs[i]? = some x → R u x
theorem RL.mono {α β : Type} {R R' : α → β → Prop} {us : List α} {xs : List β} (h : RL R us xs) (hr : ∀ u x, R u x → R' u x) : RL R' us xs := ⟨h.1, fun i u x hu hx => hr _ _ (h.2 i u x hu hx)⟩
theorem RL.nil {α β : Type} {R : α → β → Prop} : RL R [] [] := ⟨rfl, fun i u x h => by simp at h⟩
theorem RL.cons {α β : Type} {R : α → β → Prop} {u : α} {x : β} {us : List α} {xs : List β} (h : R u x) (t : RL R us xs) : RL R (u :: us) (x :: xs) :=
  ⟨by simp [t.1], fun i a b ha hb => by
    cases i with
    | zero => simp at ha hb; subst ha; subst hb; exact h
    | succ i => exact t.2 i a b (by simpa using ha) (by simpa using hb)⟩
theorem RL.nil_inv {α β : Type} {R : α → β → Prop} {us : List α} (h : RL R us []) : us = [] := List.eq_nil_of_length_eq_zero h.1
theorem RL.cons_inv {α β : Type} {R : α → β → Prop} {us : List α} {x : β} {xs : List β} (h : RL R us (x :: xs)) : ∃ u us', us = u :: us' ∧ R u x ∧ RL R us' xs := by
  cases us with
  | nil => have := h.1; simp at this
  | cons u us =>
    refine ⟨u, us, rfl, h.2 0 u x rfl rfl, by have := h.1; simpa using this, fun i a b ha hb => h.2 (i + 1) a b (by simpa using ha) (by simpa using hb)⟩
theorem RL.at_ {α β : Type} {R : α → β → Prop} {us : List α} {xs : List β} (h : RL R us xs) {i : Nat} {x : β} (hx : xs[i]? = some x) : ∃ u, us[i]? = some u ∧ R u x := by
  have hi : i < us.length := by have := (List.getElem?_eq_some_iff.1 hx).1; rw [h.1]; exact this
  exact ⟨us[i], List.getElem?_eq_getElem hi, h.2 i _ x (List.getElem?_eq_getElem hi) hx⟩
theorem RL.part {α β : Type} {R : α → β → Prop} {us : List α} {xs : List β} (h : RL R us xs) (k n : Nat) : RL R ((us.drop k).take n) ((xs.drop k).take n) := by
  refine ⟨by simp [h.1], fun i u x hu hx => ?_⟩
  rw [List.getElem?_take] at hu hx
  split at hu
  · rw [if_pos (by assumption)] at hx
    rw [List.getElem?_drop] at hu hx
    exact h.2 _ u x hu hx
  · cases hu
theorem RL.append {α β : Type} {R : α → β → Prop} {us us' : List α} {xs xs' : List β} (h : RL R us xs) (h' : RL R us' xs') : RL R (us ++ us') (xs ++ xs') := by
  refine ⟨by simp [h.1, h'.1], fun i u x hu hx => ?_⟩
  by_cases hi : i < us.length
  · rw [List.getElem?_append_left hi] at hu
    rw [List.getElem?_append_left (by rw [← h.1]; exact hi)] at hx
    exact h.2 i u x hu hx
  · rw [List.getElem?_append_right (by omega)] at hu
    rw [List.getElem?_append_right (by rw [← h.1]; omega), ← h.1] at hx
    exact h'.2 _ u x hu hx
def AggOK (P : Program) (S : Nat → Prop) (w : World) (T : Sl) (vals : List Value) (u : Value) : AV → Prop
  | .any => True
  | .agg cs => ∃ us, u = .agg us ∧ RL (RefOK P S w T vals) us.toList cs
  | x => RefOK P S w T vals u x
def TmpOK (P : Program) (S : Nat → Prop) (w : World) (T : Sl) (vals : List Value) (u : Value) : AV → Prop
  | .tup xs => ∃ us, u = .tuple us ∧ RL (AggOK P S w T vals) us.toList xs
  | x => AggOK P S w T vals u x
/-- The memory. -/
structure Mem (C : Cx) (T : Sl) (S : Nat → Prop) (vals : List Value) (bss : List (List Nat)) (w : World) : Prop where
  kept : Kept (fun k => k ∉ C.own0) C.w0 w
  s0 : ∀ k, C.S0 k → S k
  sub : ∀ k, S k → C.S0 k ∨ k ∈ C.own0 ∨ C.w0.heap.size ≤ k
  lt : ∀ k, S k → k < w.heap.size
  nv : vals.length = T.slots.length
  nb : bss.length = T.slots.length
  rep : ∀ (r k : Nat) (x : AV) (v : Value) (bs : List Nat), T.slots[r]? = some (k, x) → vals[r]? = some v → bss[r]? = some bs → Rep C.P S w bs v x
  nodup : ∀ (r : Nat) (bs : List Nat), bss[r]? = some bs → bs.Nodup
  disj : ∀ (r r' : Nat) (bs bs' : List Nat), r ≠ r' → bss[r]? = some bs → bss[r']? = some bs' → ∀ b ∈ bs, b ∉ bs'
  apart : ∀ (r : Nat) (bs : List Nat), bss[r]? = some bs → ∀ b ∈ bs, ¬ S b
  mine : ∀ (r : Nat) (bs : List Nat), bss[r]? = some bs → ∀ b ∈ bs, b ∈ C.own0 ∨ C.w0.heap.size ≤ b
  root : ∀ (r : Nat) (x : AV), r < C.v0.length → T.slots[r]? = some (0, x) → vals[r]? = C.v0[r]?
  ver : ∀ (r k : Nat) (x : AV), T.slots[r]? = some (k, x) → k < T.ep
  pos : 0 < T.ep
theorem RefOK.kept {P : Program} {S S' K : Nat → Prop} {w w' : World} {T : Sl} {vals : List Value} {u : Value} {x : AV} (h : RefOK P S w T vals u x) (hk : Kept K w w') (hK : ∀ k, k < w.heap.size → S k → K k) (hS : ∀ k, S k → S' k) : RefOK P S' w' T vals u x := by
  have key : ∀ x, Rep P S w [] u x → Rep P S' w' [] u x := fun x h => (h.kept hk hK (by simp)).mono fun k _ => hS k
  cases x with
  | sl r k off len => exact h
  | ptr r k i j => exact h
  | mp r k => exact h
  | nm => exact h
  | byt => exact h
  | om => exact h
  | _ => exact key _ h
theorem RefOK.one {P : Program} {S : Nat → Prop} {w : World} {T : Sl} {vals : List Value} {u : Value} {x : AV} (h : RefOK P S w T vals u x) : u.oneCell' = true := by
  cases x with
  | sl r k off len => exact h.2.1
  | ptr r k i j => exact h.2.1
  | mp r k => exact h.2.1
  | nm => exact h
  | byt => exact h
  | om => exact h
  | _ => exact Rep.one h
/-- What one state's references say the next state's say. -/
def Follows (P : Program) (S : Nat → Prop) (w : World) (T : Sl) (vals : List Value) (S' : Nat → Prop) (w' : World) (T' : Sl) (vals' : List Value) : Prop :=
  ∀ u x, RefOK P S w T vals u x → RefOK P S' w' T' vals' u x
theorem AggOK.follows {P : Program} {S S' : Nat → Prop} {w w' : World} {T T' : Sl} {vals vals' : List Value} (hf : Follows P S w T vals S' w' T' vals') {u : Value} {x : AV} (h : AggOK P S w T vals u x) : AggOK P S' w' T' vals' u x := by
  cases x with
  | any => trivial
  | agg cs => obtain ⟨us, e, r⟩ := h; exact ⟨us, e, r.mono fun u x => hf u x⟩
  | _ => simp only [TmpOK, AggOK] at h ⊢; exact hf u _ h
theorem TmpOK.follows {P : Program} {S S' : Nat → Prop} {w w' : World} {T T' : Sl} {vals vals' : List Value} (hf : Follows P S w T vals S' w' T' vals') {u : Value} {x : AV} (h : TmpOK P S w T vals u x) : TmpOK P S' w' T' vals' u x := by
  cases x with
  | tup xs => obtain ⟨us, e, r⟩ := h; exact ⟨us, e, r.mono fun u x => AggOK.follows hf⟩
  | any => exact trivial
  | agg cs => exact AggOK.follows hf (x := .agg cs) h
  | _ => simp only [TmpOK, AggOK] at h ⊢; exact hf u _ h
theorem Follows.refl {P : Program} {S : Nat → Prop} {w : World} {T : Sl} {vals : List Value} : Follows P S w T vals S w T vals := fun _ _ h => h
theorem Follows.kept {P : Program} {S S' K : Nat → Prop} {w w' : World} {T : Sl} {vals : List Value} (hk : Kept K w w') (hK : ∀ k, k < w.heap.size → S k → K k) (hS : ∀ k, S k → S' k) : Follows P S w T vals S' w' T vals := fun _ _ h => h.kept hk hK hS
theorem Rep.plain {P : Program} {S : Nat → Prop} {w : World} {bs : List Nat} {u : Value} {x : AV} (h : Rep P S w bs u x) (cs : List AV) : x ≠ .agg cs ∧ x ≠ .tup cs := by
  cases h <;> simp
theorem RefOK.tmp {P : Program} {S : Nat → Prop} {w : World} {T : Sl} {vals : List Value} {u : Value} {x : AV} (h : RefOK P S w T vals u x) : TmpOK P S w T vals u x := by
  cases x with
  | any => exact trivial
  | agg cs => exact absurd rfl (Rep.plain (show Rep P S w [] u (.agg cs) from h) cs).1
  | tup cs => exact absurd rfl (Rep.plain (show Rep P S w [] u (.tup cs) from h) cs).2
  | _ => exact h
def evA (env : Nat → AV) : Operand → AV
  | .tmp t => env t
  | .const x => if x.oneCell' then .v x else match x with | .agg cs => .agg (cs.toList.map .v) | _ => .any
  | .func f => .v (.func (.func f) #[] #[])
  | .global g => .v (.pointer (some ⟨g, 0, none⟩))
/-- Operation o, its operands as ev says and the slots T, yields x and leaves the slots T'. -/
def OpJ (C : Cx) (o : Oper) (ev : Operand → AV) (T : Sl) (x : AV) (T' : Sl) : Prop :=
  ∀ (a : Act) (w : World) (S : Nat → Prop) (vals : List Value) (bss : List (List Nat)), Mem C T S vals bss w → (∀ y ∈ o.op.operands, TmpOK C.P S w T vals (a.eval y) (ev y)) →
    ∀ (K : Act → World → Prop), (∀ v w' S' vals' bss', Mem C T' S' vals' bss' w' → Follows C.P S w T vals S' w' T' vals' → TmpOK C.P S' w' T' vals' v x → K (a.put o.dst v) w') →
      ∀ Q, o.wp C.P a w K Q
/-- .. of which the world takes no notice. -/
def OpP (C : Cx) (o : Oper) (ev : Operand → AV) (T : Sl) (x : AV) : Prop :=
  ∀ (a : Act) (w : World) (S : Nat → Prop) (vals : List Value) (bss : List (List Nat)), Mem C T S vals bss w → (∀ y ∈ o.op.operands, TmpOK C.P S w T vals (a.eval y) (ev y)) →
    ∃ v, (∀ w, (execOp a.eval o).run C.P w = .ok (.value v) w) ∧ TmpOK C.P S w T vals v x
theorem OpP.j {C : Cx} {o : Oper} {ev : Operand → AV} {T : Sl} {x : AV} (h : OpP C o ev T x) : OpJ C o ev T x T := by
  intro a w S vals bss hm ho K hK Q
  obtain ⟨v, hr, hx⟩ := h a w S vals bss hm ho
  unfold Oper.wp
  rw [hr w]
  exact hK v w S vals bss hm Follows.refl hx
structure Sta where
  env : Nat → AV
  T : Sl
  n : Nat
def St (C : Cx) (σ : Sta) (a : Act) (w : World) : Prop :=
  a.defers = [] ∧ a.tmps.size = σ.n ∧ ∃ S vals bss, Mem C σ.T S vals bss w ∧ ∀ t, t < σ.n → TmpOK C.P S w σ.T vals (a.tmps.getD t undef) (σ.env t)
def upd (env : Nat → AV) (d : Nat) (x : AV) : Nat → AV := fun t => if t = d then x else env t
def putE (env : Nat → AV) : Option Tmp → AV → (Nat → AV)
  | some d, x => upd env d x
  | none, _ => env
def hat (C : Cx) (Q : Exit → Sta → Prop) : Exit → Act → World → Prop := fun e a w => ∃ σ, St C σ a w ∧ Q e σ
def AW (C : Cx) (c : Code) (Q : Exit → Sta → Prop) (σ : Sta) : Prop := ∀ a w, St C σ a w → c.wp C.P (hat C Q) a w
def AWL (C : Cx) (ops : Array Oper) (Q : Exit → Sta → Prop) (l : List Oper) (σ : Sta) : Prop := ∀ a w, St C σ a w → wpList C.P ops (hat C Q) l a w
theorem Act.size_put (a : Act) (d : Option Tmp) (v : Value) : (a.put d v).tmps.size = a.tmps.size := by cases d <;> simp [Act.put]
theorem Act.defers_put (a : Act) (d : Option Tmp) (v : Value) : (a.put d v).defers = a.defers := by cases d <;> rfl
theorem Act.getD_put (a : Act) (d : Option Tmp) (v : Value) (t : Nat) : (a.put d v).tmps.getD t undef = if d = some t ∧ t < a.tmps.size then v else a.tmps.getD t undef := by
  cases d with
  | none => simp [Act.put]
  | some d =>
    by_cases h : d = t
    · subst h
      by_cases hlt : d < a.tmps.size <;> simp [Act.put, hlt]
    · simp [Act.put, h, Array.getElem?_setIfInBounds_ne h]
/-- Behind an operation. -/
theorem St.put {C : Cx} {σ : Sta} {a : Act} {w w' : World} {S S' : Nat → Prop} {vals vals' : List Value} {bss' : List (List Nat)} {T' : Sl} {d : Option Tmp} {v : Value} {x : AV}
    (hd : a.defers = []) (hn : a.tmps.size = σ.n) (he : ∀ t, t < σ.n → TmpOK C.P S w σ.T vals (a.tmps.getD t undef) (σ.env t))
    (hm : Mem C T' S' vals' bss' w') (hf : Follows C.P S w σ.T vals S' w' T' vals') (hx : TmpOK C.P S' w' T' vals' v x) : St C ⟨putE σ.env d x, T', σ.n⟩ (a.put d v) w' := by
  refine ⟨by rw [Act.defers_put, hd], by rw [Act.size_put, hn], S', vals', bss', hm, fun t ht => ?_⟩
  rw [Act.getD_put]
  cases d with
  | none => rw [if_neg (by simp)]; exact TmpOK.follows hf (he t ht)
  | some d =>
    by_cases h : d = t
    · subst h
      rw [if_pos ⟨rfl, by rw [hn]; exact ht⟩]
      simpa [putE, upd] using hx
    · rw [if_neg (fun h' => h (by simpa using h'.1))]
      have : (putE σ.env (some d) x) t = σ.env t := by simp [putE, upd]; intro h'; exact absurd h'.symm h
      show TmpOK C.P S' w' T' vals' (a.tmps.getD t undef) (putE σ.env (some d) x t)
      rw [this]
      exact TmpOK.follows hf (he t ht)
def noneBig : Operand → Nat → Bool
  | .tmp t, n => t < n
  | _, _ => true
def constOk : Operand → Bool
  | .const x => x.oneCell' || (match x with | .agg cs => cs.all (·.oneCell') | _ => false)
  | _ => true
theorem St.eval {C : Cx} {σ : Sta} {a : Act} {w : World} {S : Nat → Prop} {vals : List Value} (hn : a.tmps.size = σ.n) (he : ∀ t, t < σ.n → TmpOK C.P S w σ.T vals (a.tmps.getD t undef) (σ.env t))
    (y : Operand) (hy : noneBig y σ.n = true) (hc : constOk y = true) : TmpOK C.P S w σ.T vals (a.eval y) (evA σ.env y) := by
  cases y with
  | tmp t => exact he t (by simpa [noneBig] using hy)
  | const x =>
    simp only [evA, Act.eval]
    by_cases h1 : x.oneCell' = true
    · rw [if_pos h1]; exact Rep.v h1
    · rw [if_neg h1]
      simp only [constOk, Bool.or_eq_true, h1, false_or] at hc
      cases x with
      | agg cs =>
        refine ⟨cs, rfl, by simp, fun i u x hu hx => ?_⟩
        simp only [List.getElem?_map] at hx
        rw [hu] at hx
        simp at hx
        subst hx
        refine Rep.v ?_
        simp only [Array.all_eq_true_iff_forall_mem] at hc
        exact (hc.resolve_left (by simp)) u (Array.mem_toList_iff.1 (List.mem_of_getElem? hu))
      | _ => simp at hc
  | func f => exact Rep.v rfl
  | global g => exact Rep.v rfl
def callL (c : Call) : List Operand := (match c.callee with | .value f => [f] | .invoke r _ => [r] | .builtin _ => []) ++ c.args.toList
/-- The operands, as a list. -/
def opsL : Op → List Operand
  | .alloc _ | .ready _ | .waits _ => []
  | .move x | .assign x | .box _ x | .load _ x | .nilCheck x | .unOp _ _ x | .convert _ _ x | .sliceToArrayPointer _ x | .makeInterface _ x
  | .makeChan _ x | .fieldAddr _ x _ | .field _ x _ | .range _ x | .next x _ | .entry x | .typeAssert x _ _ _ | .extract x _ | .panic x | .recv _ x _ => [x]
  | .pick c a b => [c, a, b]
  | .build _ ps | .buildSlice _ _ ps => ps.toList.map (·.2)
  | .store _ a v | .binOp _ _ a v _ | .makeSlice _ a v | .indexAddr _ a v | .index _ a v | .lookup _ a v _ | .mapEntry _ a v | .send a v => [a, v]
  | .makeFunc _ first captured => first.toList ++ captured.toList
  | .makeMap _ r => r.toList
  | .slice _ x l h m => [x] ++ l.toList ++ h.toList ++ m.toList
  | .mapUpdate _ m k v | .entryStore _ m k v | .insert _ m k v => [m, k, v]
  | .call c | .go c | .defer c => callL c
  | .select cs _ => (cs.flatMap fun c => #[c.chan] ++ c.send.toArray).toList
theorem opsL_eq (o : Op) : o.operands.toList = opsL o := by
  cases o <;> simp [Op.operands, opsL, callL, Call.operands] <;> (first | rfl | (rename_i c; cases c.callee <;> simp) | skip)
def opsOk (o : Oper) (n : Nat) : Bool := (opsL o.op).all fun y => noneBig y n && constOk y
theorem AWL.nil {C : Cx} {ops : Array Oper} {Q : Exit → Sta → Prop} {σ : Sta} (h : Q .normal σ) : AWL C ops Q [] σ := fun a w hs => ⟨σ, hs, h⟩
theorem St.ops {C : Cx} {σ : Sta} {a : Act} {w : World} {S : Nat → Prop} {vals : List Value} (hn : a.tmps.size = σ.n) (he : ∀ t, t < σ.n → TmpOK C.P S w σ.T vals (a.tmps.getD t undef) (σ.env t)) {o : Oper} (ho : opsOk o σ.n = true) :
    ∀ y ∈ o.op.operands, TmpOK C.P S w σ.T vals (a.eval y) (evA σ.env y) := fun y hy => by
  have := List.all_eq_true.1 ho y (by rw [← opsL_eq]; exact Array.mem_toList_iff.2 hy)
  simp only [Bool.and_eq_true] at this
  exact St.eval hn he y this.1 this.2
theorem AWL.op {C : Cx} {ops : Array Oper} {Q : Exit → Sta → Prop} {o : Oper} {l : List Oper} {σ : Sta} {x : AV} {T' : Sl} (hg : o.guard = none) (ho : opsOk o σ.n = true) (hj : OpJ C o (evA σ.env) σ.T x T') (h : AWL C ops Q l ⟨putE σ.env o.dst x, T', σ.n⟩) : AWL C ops Q (o :: l) σ := by
  intro a w hs
  obtain ⟨hd, hn, S, vals, bss, hm, he⟩ := hs
  refine wpList_plain hg fun K hK => ?_
  exact hj a w S vals bss hm (St.ops hn he ho) K (fun v w' S' vals' bss' hm' hf hx => hK _ _ (h _ _ (St.put hd hn he hm' hf hx))) _
end Go.Proofs.Ytmihcabjoodogaa
namespace Go.Proofs.Ytmihcabjoodogaa
open Go.RowKit
set_option linter.unusedSimpArgs false
set_option linter.unusedVariables false
section
variable {C : Cx} {Q : Exit → Sta → Prop} {σ : Sta}
def thenE (next : Sta → Prop) (Q : Exit → Sta → Prop) : Exit → Sta → Prop
  | .normal, σ => next σ
  | e, σ => Q e σ
theorem AW.mono {c : Code} {Q' : Exit → Sta → Prop} (h : AW C c Q σ) (hq : ∀ e σ, Q e σ → Q' e σ) : AW C c Q' σ := fun a w hs =>
  wp_mono (h a w hs) fun e a w ⟨σ, h1, h2⟩ => ⟨σ, h1, hq _ _ h2⟩
theorem AW.seq {x y : Code} (h : AW C x (thenE (AW C y Q) Q) σ) : AW C (.seq x y) Q σ := fun a w hs =>
  wp_seq (wp_mono (h a w hs) fun e a w ⟨σ, h1, h2⟩ => by
    cases e with
    | normal => exact h2 a w h1
    | _ => exact ⟨σ, h1, h2⟩)
theorem AW.seq_k {x y : Code} (h : ∀ K : Sta → Prop, (∀ σ, AW C y Q σ → K σ) → AW C x (thenE K Q) σ) : AW C (.seq x y) Q σ := AW.seq (h _ fun _ h => h)
theorem AW.skip (h : Q .normal σ) : AW C .skip Q σ := fun a w hs => wp_skip ⟨σ, hs, h⟩
theorem AW.exit {i : Nat} (h : Q (.exit i) σ) : AW C (.exit i) Q σ := fun a w hs => wp_exit ⟨σ, hs, h⟩
theorem AW.ret (h : Q .ret σ) : AW C .ret Q σ := fun a w hs => wp_ret ⟨σ, hs, h⟩
def inBlk (id : Nat) (Q : Exit → Sta → Prop) : Exit → Sta → Prop
  | .exit id', σ => if id' = id then Q .normal σ else Q (.exit id') σ
  | e, σ => Q e σ
theorem AW.block {i : Nat} {c : Code} (h : AW C c (inBlk i Q) σ) : AW C (.block i c) Q σ := fun a w hs =>
  wp_block (wp_mono (h a w hs) fun e a w ⟨σ, h1, h2⟩ => by
    cases e with
    | exit j =>
      simp only [inBlk] at h2
      simp only [Exit.inBlock]
      split at h2
      · rename_i hj; rw [if_pos hj]; exact ⟨σ, h1, h2⟩
      · rename_i hj; rw [if_neg hj]; exact ⟨σ, h1, h2⟩
    | _ => exact ⟨σ, h1, h2⟩)
theorem St.bool {a : Act} {w : World} (hs : St C σ a w) {c : Operand} {t : Bool} (hn : noneBig c σ.n = true) (hk : constOk c = true) (hc : evA σ.env c = .v (.bool t)) : a.eval c = .bool t := by
  obtain ⟨hd, hn', S, vals, bss, hm, he⟩ := hs
  have := St.eval hn' he c hn hk
  rw [hc] at this
  have h' : Rep C.P S w [] (a.eval c) (.v (.bool t)) := this
  exact h'.v_inv.1
theorem AW.cond {c : Operand} {x y : Code} {t : Bool} (hn : noneBig c σ.n = true) (hk : constOk c = true) (hc : evA σ.env c = .v (.bool t)) (ht : t = true → AW C x Q σ) (hf : t = false → AW C y Q σ) : AW C (.cond c x y) Q σ := fun a w hs =>
  wp_cond_split (hs.bool hn hk hc) (fun h => ht h a w hs) (fun h => hf h a w hs)
theorem AW.loop {c : Code} (I : Sta → Prop) (μ : Sta → Nat) (h0 : I σ) (round : ∀ σ, I σ → AW C c (thenE (fun σ' => I σ' ∧ μ σ' < μ σ) Q) σ) : AW C (.loop c) Q σ := by
  intro a w hs b k cs
  have key : ∀ n σ a w, μ σ = n → I σ → St C σ a w →
      ∃ e a' w', hat C Q e a' w' ∧ Arrives C.P (lone (b.at a (.code c :: .inLoop c :: k)) cs w) b k cs e a' w' := by
    intro n
    induction n using Nat.strongRecOn with
    | _ n ih =>
      intro σ a w hn hI hs
      obtain ⟨e, a₁, w₁, ⟨σ₁, hs₁, hq⟩, harr⟩ := round σ hI a w hs b (.inLoop c :: k) cs
      cases e with
      | normal =>
        obtain ⟨hI₁, hlt⟩ := hq
        obtain ⟨e₂, a₂, w₂, hq₂, harr₂⟩ := ih (μ σ₁) (hn ▸ hlt) σ₁ a₁ w₁ rfl hI₁ hs₁
        exact ⟨e₂, a₂, w₂, hq₂, .of_steps (Steps.trans harr (.one step_inLoop)) harr₂⟩
      | exit id => exact ⟨_, a₁, w₁, ⟨σ₁, hs₁, hq⟩, .pass (x := .inLoop c) rfl (fun _ _ => .inl (by simp)) harr⟩
      | goto l => exact ⟨_, a₁, w₁, ⟨σ₁, hs₁, hq⟩, .pass (x := .inLoop c) rfl (fun _ _ => .inl (by simp)) harr⟩
      | ret => exact ⟨_, a₁, w₁, ⟨σ₁, hs₁, hq⟩, .pass (x := .inLoop c) rfl (fun _ _ => .inl (by simp)) harr⟩
      | panic ch => exact ⟨_, a₁, w₁, ⟨σ₁, hs₁, hq⟩, .pass (x := .inLoop c) rfl (fun _ _ => .inl (by simp)) harr⟩
      | outgrown => exact ⟨_, a₁, w₁, ⟨σ₁, hs₁, hq⟩, .pass (x := .inLoop c) rfl (fun _ _ => .inl (by simp)) harr⟩
  obtain ⟨e, a', w', hq, harr⟩ := key _ σ a w rfl h0 hs
  exact ⟨e, a', w', hq, .of_steps (.one step_loop) harr⟩
/-- A region in the order of the text. -/
theorem AW.region {i : Nat} {l : List Oper} (h : AWL C l.toArray Q l σ) : AW C (.region i l.toArray false) Q σ := fun a w hs => wp_region_lit (h a w hs)
/-- The state may be known less well. -/
def Wk (σ σ' : Sta) : Prop := σ'.T = σ.T ∧ σ'.n = σ.n ∧ ∀ t, t < σ.n → σ'.env t = .any ∨ σ'.env t = σ.env t
theorem TmpOK.any_ {P : Program} {S : Nat → Prop} {w : World} {T : Sl} {vals : List Value} {u : Value} : TmpOK P S w T vals u .any := trivial
theorem AWL.guard_yes {ops : Array Oper} {o o' : Oper} {l : List Oper} {x : AV} {T' : Sl} {g d : Nat} {b : Bool} (hg : o.guard = some (g, b)) (ho' : ops[g]? = some o') (hd : o'.dst = some d) (hdn : d < σ.n) (hv : σ.env d = .v (.bool b))
    (ho : opsOk o σ.n = true) (hj : OpJ C o (evA σ.env) σ.T x T') (h : AWL C ops Q l ⟨putE σ.env o.dst x, T', σ.n⟩) : AWL C ops Q (o :: l) σ := by
  intro a w hs
  have hs' := hs
  obtain ⟨hd', hn, S, vals, bss, hm, he⟩ := hs
  have hb := hs'.bool (c := .tmp d) (t := b) (by simpa [noneBig] using hdn) rfl hv
  refine wpList_step fun K hK => ?_
  have hw : Region.wanted o (yielded ops a.tmps) = true := by
    have hlt : d < a.tmps.size := by rw [hn]; exact hdn
    simp [Act.eval, hlt] at hb
    simp [Region.wanted, hg, yielded, ho', hd, hlt, hb]
  rw [if_pos hw]
  exact hj a w S vals bss hm (St.ops hn he ho) K (fun v w' S' vals' bss' hm' hf hx => hK _ _ (h _ _ (St.put hd' hn he hm' hf hx))) _
def AWAny (C : Cx) (ops : Array Oper) (Q : Exit → Sta → Prop) (fuel : Nat) (listed : Array Bool) (σ : Sta) : Prop := ∀ a w, St C σ a w → wpAny C.P .any ops (hat C Q) fuel listed a w
theorem St.drew {a : Act} {w : World} (hs : St C σ a w) : St C σ a { w with drawn := w.drawn + 1 } := by
  obtain ⟨hd, hn, S, vals, bss, hm, he⟩ := hs
  have hk : Kept (fun _ => True) w w.drew := (Kept.refl _ _).drew
  refine ⟨hd, hn, S, vals, bss, ⟨hm.kept.drew, hm.s0, hm.sub, hm.lt, hm.nv, hm.nb, fun r k x v bs h1 h2 h3 => (hm.rep r k x v bs h1 h2 h3).kept hk (fun _ _ _ => trivial) (fun _ _ => trivial), hm.nodup, hm.disj, hm.apart, hm.mine, hm.root, hm.ver, hm.pos⟩, fun t ht => ?_⟩
  exact TmpOK.follows (Follows.kept hk (fun _ _ _ => trivial) fun _ h => h) (he t ht)
theorem AW.region_any {i : Nat} {ops : Array Oper} (hm : C.P.follows .mixedOrders = true) (h : AWAny C ops Q ops.size (Array.replicate ops.size false) σ) : AW C (.region i ops true) Q σ :=
  fun a w hs => wp_region_any hm (h a _ hs.drew)
theorem AWAny.done {ops : Array Oper} {listed : Array Bool} {fuel : Nat} (hr : Region.ready .any ops listed = []) (h : Q .normal σ) : AWAny C ops Q fuel listed σ := fun a w hs => wpAny_done hr ⟨σ, hs, h⟩ fuel
/-- Whichever of those that may come up comes up. -/
def AWOp (C : Cx) (ops : Array Oper) (Q : Exit → Sta → Prop) (i : Nat) (K : Sta → Prop) (σ : Sta) : Prop := ∀ a w, St C σ a w → ∀ K' : Act → World → Prop, (∀ σ' a' w', K σ' → St C σ' a' w' → K' a' w') → wpOp C.P ops (hat C Q) i K' a w
theorem AWAny.all {ops : Array Oper} {rs : List Nat} {fuel : Nat} {listed : Array Bool} (hr : Region.ready .any ops listed = rs) (hne : rs ≠ []) (h : ∀ i ∈ rs, AWOp C ops Q i (AWAny C ops Q fuel (listed.setIfInBounds i true)) σ) : AWAny C ops Q (fuel + 1) listed σ :=
  fun a w hs => wpAny_all hr hne fun i hi => h i hi a w hs _ fun σ' a' w' hk hs' => hk a' w' hs'
theorem AWOp.op {ops : Array Oper} {i : Nat} {o : Oper} {K : Sta → Prop} {x : AV} {T' : Sl} (hi : ops[i]? = some o) (hg : o.guard = none) (ho : opsOk o σ.n = true) (hj : OpJ C o (evA σ.env) σ.T x T') (h : K ⟨putE σ.env o.dst x, T', σ.n⟩) : AWOp C ops Q i K σ := by
  intro a w hs K' hK
  obtain ⟨hd, hn, S, vals, bss, hm, he⟩ := hs
  unfold wpOp
  simp only [hi, Region.wanted, hg, if_true]
  exact .inl (hj a w S vals bss hm (St.ops hn he ho) K' (fun v w' S' vals' bss' hm' hf hx => hK _ _ _ h (St.put hd hn he hm' hf hx)) _)
/-- A pure operation may be taken first. -/
theorem AWAny.take {ops : Array Oper} {i : Nat} {o : Oper} {x : AV} {fuel : Nat} {listed : Array Bool} (hi : ops[i]? = some o) (hs : Region.noSelect ops = true) (hf : Region.free .any ops listed i = true) (hr : (Region.ready .any ops listed).contains i = true)
    (hp : ∀ c σ, ¬ Q (.panic c) σ) (hg : o.guard = none) (ho : opsOk o σ.n = true) (hj : OpP C o (evA σ.env) σ.T x) (h : AWAny C ops Q fuel (listed.setIfInBounds i true) ⟨putE σ.env o.dst x, σ.T, σ.n⟩) : AWAny C ops Q (fuel + 1) listed σ := by
  intro a w hst
  obtain ⟨hd, hn, S, vals, bss, hm, he⟩ := hst
  obtain ⟨v, hv, hx⟩ := hj a w S vals bss hm (St.ops hn he ho)
  exact wpAny_take hi hs hf hr (fun c a w ⟨σ, _, hq⟩ => absurd hq (hp c σ)) (.inl ⟨by simp [Region.wanted, hg], hv⟩) (h _ _ (St.put hd hn he hm Follows.refl hx))
end
end Go.Proofs.Ytmihcabjoodogaa
namespace Go.Proofs.Ytmihcabjoodogaa
open Go.RowKit
set_option linter.unusedSimpArgs false
set_option linter.unusedVariables false
/-- An operation that only reads: it yields the same in every world in which nothing that was there has turned. -/
def OpR (C : Cx) (o : Oper) (ev : Operand → AV) (T : Sl) (x : AV) : Prop :=
  ∀ (a : Act) (w : World) (S : Nat → Prop) (vals : List Value) (bss : List (List Nat)), Mem C T S vals bss w → (∀ y ∈ o.op.operands, TmpOK C.P S w T vals (a.eval y) (ev y)) →
    ∃ v, (∀ w', Kept (fun _ => True) w w' → (execOp a.eval o).run C.P w' = .ok (.value v) w') ∧ TmpOK C.P S w T vals v x
theorem OpP.r {C : Cx} {o : Oper} {ev : Operand → AV} {T : Sl} {x : AV} (h : OpP C o ev T x) : OpR C o ev T x := fun a w S vals bss hm ho =>
  let ⟨v, hr, hx⟩ := h a w S vals bss hm ho
  ⟨v, fun w' _ => hr w', hx⟩
theorem OpR.j {C : Cx} {o : Oper} {ev : Operand → AV} {T : Sl} {x : AV} (h : OpR C o ev T x) : OpJ C o ev T x T := by
  intro a w S vals bss hm ho K hK Q
  obtain ⟨v, hr, hx⟩ := h a w S vals bss hm ho
  unfold Oper.wp
  rw [hr w (Kept.refl _ _)]
  exact hK v w S vals bss hm Follows.refl hx
section
variable {P : Program} {S : Nat → Prop} {w : World} {T : Sl} {vals : List Value} {u : Value}
theorem TmpOK.v {x : Value} (h : TmpOK P S w T vals u (.v x)) : u = x := (show Rep P S w [] u (.v x) from h).v_inv.1
theorem TmpOK.v_ {x : Value} (h : x.oneCell' = true) : TmpOK P S w T vals x (.v x) := Rep.v h
theorem TmpOK.ro {es : List (List AV)} (h : TmpOK P S w T vals u (.ro es)) : Rep P S w [] u (.ro es) := h
theorem TmpOK.agg {cs : List AV} (h : TmpOK P S w T vals u (.agg cs)) : ∃ us, u = .agg us ∧ RL (RefOK P S w T vals) us.toList cs := h
theorem AggOK.tmp {x : AV} (h : AggOK P S w T vals u x) : TmpOK P S w T vals u x := by
  cases x with
  | tup cs => exact absurd rfl (Rep.plain (show Rep P S w [] u (.tup cs) from h) cs).2
  | _ => exact h
end
section
variable {C : Cx} {o : Oper} {ev : Operand → AV} {T : Sl}
theorem op_move {y : Operand} {x : AV} (ho : o.op = .move y) (hx : ev y = x) : OpP C o ev T x := by
  intro a w S vals bss hm h
  have := h y (by simp [ho, Op.operands])
  rw [hx] at this
  exact ⟨a.eval y, fun w => by simp [execOp, ho], this⟩
theorem op_assign {y : Operand} {x : AV} (ho : o.op = .assign y) (hx : ev y = x) : OpP C o ev T x := by
  intro a w S vals bss hm h
  have := h y (by simp [ho, Op.operands])
  rw [hx] at this
  exact ⟨a.eval y, fun w => by simp [execOp, ho], this⟩
theorem op_pick {c p q : Operand} {b : Bool} {x : AV} (ho : o.op = .pick c p q) (hc : ev c = .v (.bool b)) (hx : (if b then ev p else ev q) = x) : OpP C o ev T x := by
  intro a w S vals bss hm h
  have h1 := h c (by simp [ho, Op.operands])
  rw [hc] at h1
  have e := h1.v
  cases b
  · have h2 := h q (by simp [ho, Op.operands])
    rw [show ev q = x from hx] at h2
    exact ⟨a.eval q, fun w => by simp [execOp, ho, e, asBool], h2⟩
  · have h2 := h p (by simp [ho, Op.operands])
    rw [show ev p = x from hx] at h2
    exact ⟨a.eval p, fun w => by simp [execOp, ho, e, asBool], h2⟩
theorem op_extract {y : Operand} {i : Nat} {xs : List AV} {x : AV} (ho : o.op = .extract y i) (hy : ev y = .tup xs) (hx : xs[i]? = some x) : OpP C o ev T x := by
  intro a w S vals bss hm h
  have h1 := h y (by simp [ho, Op.operands])
  rw [hy] at h1
  obtain ⟨us, e, r⟩ := h1
  obtain ⟨u, hu, hr⟩ := r.at_ hx
  refine ⟨u, fun w => ?_, hr.tmp⟩
  have hu' : us[i]? = some u := by simpa using hu
  simp [execOp, ho, e, Instr.extract, hu']
/-- An operator of two known values. -/
theorem op_bin {op : BinOp} {t yt : TypeId} {p q : Operand} {x y z : Value} (ho : o.op = .binOp op t p q yt) (hp : ev p = .v x) (hq : ev q = .v y)
    (hg : ∀ w, (eqGuard op t p q x y).run C.P w = .ok () w) (hr : ∀ w, (binOp op t x y).run C.P w = .ok z w) (hz : z.oneCell' = true) : OpP C o ev T (.v z) := by
  intro a w S vals bss hm h
  have h1 := h p (by simp [ho, Op.operands])
  have h2 := h q (by simp [ho, Op.operands])
  rw [hp] at h1
  rw [hq] at h2
  refine ⟨z, fun w => ?_, TmpOK.v_ hz⟩
  simp [execOp, ho, h1.v, h2.v, hg, hr]
theorem op_un {op : UnOp} {t : TypeId} {p : Operand} {x z : Value} (ho : o.op = .unOp op t p) (hp : ev p = .v x) (hr : ∀ w, (Op.unary op x).run C.P w = .ok z w) (hz : z.oneCell' = true) : OpP C o ev T (.v z) := by
  intro a w S vals bss hm h
  have h1 := h p (by simp [ho, Op.operands])
  rw [hp] at h1
  exact ⟨z, fun w => by simp [execOp, ho, h1.v, hr w], TmpOK.v_ hz⟩
theorem op_not {t : TypeId} {p : Operand} {b b' : Bool} (ho : o.op = .unOp .not t p) (hp : ev p = .v (.bool b)) (hb : (!b) = b') : OpP C o ev T (.v (.bool b')) :=
  op_un ho hp (fun w => by subst hb; rfl) rfl
theorem beq_dec (x y : Int) : (x == y) = decide (x = y) := by rw [Bool.eq_iff_iff]; simp
section ints
variable {t yt : TypeId} {p q : Operand} {k : IntKind} {x y z : Int}
theorem eqGuard_int (op : BinOp) (t : TypeId) (p q : Operand) (k : IntKind) (x y : Int) : ∀ (w : World), (eqGuard op t p q (.int k x) (.int k y)).run C.P w = .ok () w := by
  intro w; unfold eqGuard; cases op <;> simp
theorem op_add (ho : o.op = .binOp .add t p q yt) (hp : ev p = .v (.int k x)) (hq : ev q = .v (.int k y)) (hz : k.wrap (x + y) = z) : OpP C o ev T (.v (.int k z)) :=
  op_bin ho hp hq (eqGuard_int _ _ _ _ _ _ _) (fun w => by simp [binOp, Op.intArith, hz]) rfl
theorem op_sub (ho : o.op = .binOp .sub t p q yt) (hp : ev p = .v (.int k x)) (hq : ev q = .v (.int k y)) (hz : k.wrap (x - y) = z) : OpP C o ev T (.v (.int k z)) :=
  op_bin ho hp hq (eqGuard_int _ _ _ _ _ _ _) (fun w => by simp [binOp, Op.intArith, hz]) rfl
theorem op_rem (ho : o.op = .binOp .rem t p q yt) (hp : ev p = .v (.int k x)) (hq : ev q = .v (.int k y)) (h0 : y ≠ 0) (hz : x.tmod y = z) : OpP C o ev T (.v (.int k z)) :=
  op_bin ho hp hq (eqGuard_int _ _ _ _ _ _ _) (fun w => by simp [binOp, Op.intDiv, h0, hz]) rfl
theorem op_lss (ho : o.op = .binOp .lss t p q yt) (hp : ev p = .v (.int k x)) (hq : ev q = .v (.int k y)) : OpP C o ev T (.v (.bool (decide (x < y)))) :=
  op_bin ho hp hq (eqGuard_int _ _ _ _ _ _ _) (fun w => by simp [binOp, Op.intCmp, beq_dec]) rfl
theorem op_gtr (ho : o.op = .binOp .gtr t p q yt) (hp : ev p = .v (.int k x)) (hq : ev q = .v (.int k y)) : OpP C o ev T (.v (.bool (decide (x > y)))) :=
  op_bin ho hp hq (eqGuard_int _ _ _ _ _ _ _) (fun w => by simp [binOp, Op.intCmp, beq_dec]) rfl
theorem op_geq (ho : o.op = .binOp .geq t p q yt) (hp : ev p = .v (.int k x)) (hq : ev q = .v (.int k y)) : OpP C o ev T (.v (.bool (decide (x ≥ y)))) :=
  op_bin ho hp hq (eqGuard_int _ _ _ _ _ _ _) (fun w => by simp [binOp, Op.intCmp, beq_dec]) rfl
theorem op_eql (ho : o.op = .binOp .eql t p q yt) (hp : ev p = .v (.int k x)) (hq : ev q = .v (.int k y)) : OpP C o ev T (.v (.bool (decide (x = y)))) :=
  op_bin ho hp hq (eqGuard_int _ _ _ _ _ _ _) (fun w => by simp [binOp, Op.intCmp, beq_dec]) rfl
theorem op_neq (ho : o.op = .binOp .neq t p q yt) (hp : ev p = .v (.int k x)) (hq : ev q = .v (.int k y)) : OpP C o ev T (.v (.bool (!decide (x = y)))) :=
  op_bin ho hp hq (eqGuard_int _ _ _ _ _ _ _) (fun w => by simp [binOp, Op.intCmp, bne, beq_dec]) rfl
end ints
section strs
variable {t yt : TypeId} {p q : Operand} {x y : ByteArray}
theorem eqGuard_str (op : BinOp) (t : TypeId) (p q : Operand) (x y : ByteArray) : ∀ (w : World), (eqGuard op t p q (.string x) (.string y)).run C.P w = .ok () w := by
  intro w; unfold eqGuard; cases op <;> simp
theorem op_seql (ho : o.op = .binOp .eql t p q yt) (hp : ev p = .v (.string x)) (hq : ev q = .v (.string y)) : OpP C o ev T (.v (.bool (x.toList == y.toList))) :=
  op_bin ho hp hq (eqGuard_str _ _ _ _ _ _) (fun w => by simp [binOp, Op.stringOp]) rfl
theorem op_sneq (ho : o.op = .binOp .neq t p q yt) (hp : ev p = .v (.string x)) (hq : ev q = .v (.string y)) : OpP C o ev T (.v (.bool !(x.toList == y.toList))) :=
  op_bin ho hp hq (eqGuard_str _ _ _ _ _ _) (fun w => by simp [binOp, Op.stringOp]) rfl
end strs
/-- len of a slice. -/
theorem lenOf_slice {P : Program} {S : Nat → Prop} {w : World} {vals : List Value} {u : Value} {x : AV} {n : Nat} (h : TmpOK P S w T vals u x)
    (hx : x = .sln n ∨ (∃ es, x = .ro es ∧ es.length = n) ∨ (∃ es, x = .rof es ∧ es.length = n) ∨ (n = 0 ∧ x = .v (.slice none 0 0))) : ∃ A c, u = .slice A n c ∧ n ≤ c ∧ c ≤ maxLen := by
  rcases hx with rfl | ⟨es, rfl, rfl⟩ | ⟨es, rfl, rfl⟩ | ⟨rfl, rfl⟩
  · obtain ⟨-, A, c, e, h1, h2⟩ := (show Rep P S w [] u (.sln n) from h).sln_inv
    exact ⟨A, c, e, h1, h2⟩
  · obtain ⟨-, A, c, _, _, e, h1, h2, _⟩ := h.ro.ro_inv
    exact ⟨A, c, e, h1, h2⟩
  · obtain ⟨-, A, _, _, e, h1, _⟩ := (show Rep P S w [] u (.rof es) from h).rof_inv
    exact ⟨A, _, e, Nat.le_refl _, h1⟩
  · exact ⟨none, 0, h.v, Nat.le_refl _, by unfold maxLen; omega⟩
end
end Go.Proofs.Ytmihcabjoodogaa
namespace Go.Proofs.Ytmihcabjoodogaa
open Go.RowKit
set_option linter.unusedSimpArgs false
set_option linter.unusedVariables false
/-- Is the type a struct's or an array's? -/
def aggB (P : Program) (t : TypeId) : Option Bool := match P.underlying t with | some (.struct _) => some true | some (.array ..) => some true | some _ => some false | none => none
theorem run_isAgg {P : Program} {t : TypeId} {b : Bool} (h : aggB P t = some b) (w : World) : (isAgg t).run P w = .ok b w := by
  unfold aggB at h
  unfold isAgg
  cases hu : P.underlying t with
  | none => rw [hu] at h; cases h
  | some d =>
    rw [hu] at h
    cases d <;> simp at h <;> subst h <;> simp [run_underlying hu]
theorem run_sizeOf {P : Program} {t : TypeId} {n : Nat} (h : sizeIs P t n) (w : World) : (sizeOf t).run P w = .ok n w := by
  unfold sizeIs at h
  cases hi : P.info? t with
  | none => rw [hi] at h; cases h
  | some i => rw [hi] at h; simp at h; simp [sizeOf, typeInfo, hi, h]
/-- Field f of struct type t: its offset, its type. -/
def fieldIs (P : Program) (t : TypeId) (f off : Nat) (ft : TypeId) : Prop := ∃ fs fd, P.underlying t = some (.struct fs) ∧ fs[f]? = some fd ∧ fd.offset = off ∧ fd.type = ft
theorem add_off (g o n : Nat) : (⟨g, o, none⟩ : Addr).add n = ⟨g, o + n, none⟩ := by
  unfold Addr.add
  by_cases h : n = 0
  · subst h; simp
  · simp [h]
theorem run_fieldAt {P : Program} {t : TypeId} {f off n : Nat} {ft : TypeId} (hf : fieldIs P t f off ft) (hs : sizeIs P ft n) (hn : n ≠ 0) (A : Addr) (w : World) : (Instr.fieldAt t (.pointer (some A)) f).run P w = .ok (.pointer (some (A.add off))) w := by
  obtain ⟨fs, fd, h1, h2, rfl, rfl⟩ := hf
  simp [Instr.fieldAt, run_underlying h1, h2, Instr.sureAddr, fieldPlace, run_sizeOf hs, hn]
theorem run_loadVar {P : Program} {t : TypeId} {n : Nat} (ha : aggB P t = some true) (hs : sizeIs P t n) (A : Addr) (us : List Value) (hl : us.length = n) (w : World) (hc : ∀ j u, us[j]? = some u → w.cell? (A.add j) = some u) : (loadVar t A).run P w = .ok (.agg us.toArray) w := by
  have := run_loadCells_list (P := P) w A us hc
  simp [loadVar, run_isAgg ha, run_sizeOf hs, ← hl, this]
theorem run_loadOne {P : Program} {t : TypeId} (ha : aggB P t = some false) (A : Addr) (u : Value) (w : World) (hc : w.cell? A = some u) : (loadVar t A).run P w = .ok u w := by
  simp [loadVar, run_isAgg ha, hc]
/-- The cells of a list of elements, all of one size. -/
theorem flat_at {sz : Nat} : ∀ {es : List (List AV)}, (∀ e ∈ es, e.length = sz) → ∀ {i : Nat} {row : List AV}, es[i]? = some row → ∀ {j : Nat} {x : AV}, row[j]? = some x → es.flatten[i * sz + j]? = some x
  | [], _, i, row, h, _, _, _ => by simp at h
  | e :: es, hs, i, row, h, j, x, hx => by
    have he := hs e (by simp)
    cases i with
    | zero =>
      simp at h
      subst h
      have : j < e.length := (List.getElem?_eq_some_iff.1 hx).1
      rw [Nat.zero_mul, Nat.zero_add, List.flatten_cons, List.getElem?_append_left this]
      exact hx
    | succ i =>
      have := flat_at (es := es) (fun e h => hs e (by simp [h])) (i := i) (by simpa using h) hx
      rw [List.flatten_cons, List.getElem?_append_right (by rw [he, Nat.add_mul]; omega), he]
      have e2 : (i + 1) * sz + j - sz = i * sz + j := by rw [Nat.add_mul]; omega
      rw [e2]; exact this
theorem flat_len {sz : Nat} : ∀ {es : List (List AV)}, (∀ e ∈ es, e.length = sz) → es.flatten.length = es.length * sz
  | [], _ => by simp
  | e :: es, hs => by
    rw [List.flatten_cons, List.length_append, flat_len (es := es) (fun e h => hs e (by simp [h])), hs e (by simp), List.length_cons, Nat.add_mul]; omega
theorem flat_cut {sz : Nat} : ∀ {es : List (List AV)}, (∀ e ∈ es, e.length = sz) → ∀ k n, ((es.drop k).take n).flatten = (es.flatten.drop (k * sz)).take (n * sz) := by
  intro es hs k n
  have hd : ∀ (es : List (List AV)) k, (∀ e ∈ es, e.length = sz) → (es.drop k).flatten = es.flatten.drop (k * sz) := by
    intro es
    induction es with
    | nil => intro k _; simp
    | cons e es ih =>
      intro k hs
      cases k with
      | zero => simp
      | succ k =>
        have he := hs e (by simp)
        have h0 : List.drop ((k + 1) * sz) e = [] := List.drop_eq_nil_of_le (by rw [he, Nat.add_mul]; omega)
        rw [List.drop_succ_cons, ih k (fun e h => hs e (by simp [h])), List.flatten_cons, List.drop_append, h0, List.nil_append, he]
        congr 1
        rw [Nat.add_mul]; omega
  have ht : ∀ (es : List (List AV)) n, (∀ e ∈ es, e.length = sz) → (es.take n).flatten = es.flatten.take (n * sz) := by
    intro es
    induction es with
    | nil => intro k _; simp
    | cons e es ih =>
      intro k hs
      cases k with
      | zero => simp
      | succ k =>
        have he := hs e (by simp)
        have h0 : List.take ((k + 1) * sz) e = e := List.take_of_length_le (by rw [he, Nat.add_mul]; omega)
        rw [List.take_succ_cons, List.flatten_cons, ih k (fun e h => hs e (by simp [h])), List.flatten_cons, List.take_append, he, h0]
        congr 2
        rw [Nat.add_mul]; omega
  rw [ht _ n (fun e h => hs e (List.mem_of_mem_drop h)), hd _ k hs]
/-- What a load of a cell gives. -/
def ldc : AV → AV
  | .own _ es => .sln es.length
  | .om _ _ => .any
  | .nm _ _ _ => .any
  | .byt _ _ _ => .any
  | x => x
theorem Rep.ldc {P : Program} {S : Nat → Prop} {w : World} {bs : List Nat} {u : Value} {x : AV} (h : Rep P S w bs u x) : Rep P S w [] u (ldc x) := by
  cases h with
  | any h => exact .any h
  | v h => exact .v h
  | sln h1 h2 => exact .sln h1 h2
  | ro h1 h2 h3 h4 h5 h6 => exact .ro h1 h2 h3 h4 h5 h6
  | rof h2 h3 h4 h5 h6 => exact .rof h2 h3 h4 h5 h6
  | rop h1 h2 h3 => exact .rop h1 h2 h3
  | clo h1 h2 => exact .clo h1 h2
  | bm h1 h2 => exact .bm h1 h2
  | nm h => exact .any (Rep.one h)
  | byt => exact .any rfl
  | om => exact .any rfl
  | own hi hs ho hl hb hc =>
    rename_i e es us sz bss
    rcases ho.2 with ⟨rfl, h0⟩ | ⟨g, cap, cur, rfl, -, -, h1, h2, -⟩
    · show Rep P S w [] _ (.sln es.length)
      rw [h0]; exact .sln (Nat.le_refl _) (by unfold maxLen; omega)
    · exact .sln h1 h2
theorem Rep.noref {P : Program} {S : Nat → Prop} {w : World} {bs : List Nat} {u : Value} {x : AV} (h : Rep P S w bs u x) (r k i j : Nat) : x ≠ .sl r k i j ∧ x ≠ .ptr r k i j ∧ x ≠ .mp r k := by
  cases h <;> simp
theorem Rep.ref {P : Program} {S : Nat → Prop} {w : World} {T : Sl} {vals : List Value} {u : Value} {x : AV} (h : Rep P S w [] u x) : RefOK P S w T vals u x := by
  cases x with
  | sl r k i j => exact absurd rfl (h.noref r k i j).1
  | ptr r k i j => exact absurd rfl (h.noref r k i j).2.1
  | mp r k => exact absurd rfl (h.noref r k 0 0).2.2
  | nm => exact Rep.one h
  | byt => exact Rep.one h
  | om => exact Rep.one h
  | _ => exact h
section
variable {C : Cx} {o : Oper} {ev : Operand → AV} {T : Sl}
theorem op_nil_ptr {y : Operand} {cs : List AV} (ho : o.op = .nilCheck y) (hy : ev y = .rop cs) : OpP C o ev T (.rop cs) := by
  intro a w S vals bss hm h
  have h1 := h y (by simp [ho, Op.operands])
  rw [hy] at h1
  obtain ⟨-, A, us, e, _⟩ := (show Rep C.P S w [] _ (.rop cs) from h1).rop_inv
  exact ⟨a.eval y, fun w => by simp [execOp, ho, e], h1⟩
/-- The address of a field. -/
theorem op_fa_rop {t ft : TypeId} {y : Operand} {f off n : Nat} {cs : List AV} (ho : o.op = .fieldAddr t y f) (hy : ev y = .rop cs) (hf : fieldIs C.P t f off ft) (hs : sizeIs C.P ft n) (hn : n ≠ 0) (hl : off < cs.length) {xs : List AV} (hx : cs.drop off = xs) : OpP C o ev T (.rop xs) := by
  intro a w S vals bss hm h
  have h1 := h y (by simp [ho, Op.operands])
  rw [hy] at h1
  obtain ⟨-, A, us, e, hr, hlen, hc⟩ := (show Rep C.P S w [] _ (.rop cs) from h1).rop_inv
  obtain ⟨g, oo, hA, hS, hcell⟩ := hr (by omega)
  injection hA with hA
  subst hA
  refine ⟨.pointer (some ⟨g, oo + off, none⟩), fun w => by simp [execOp, ho, e, run_fieldAt hf hs hn, add_off], ?_⟩
  subst hx
  refine Rep.rop (us := us.drop off) (fun _ => ⟨g, oo + off, rfl, hS, fun j u hu => ?_⟩) (by simp [hlen]) fun i u x hu hx => ?_
  · rw [List.getElem?_drop] at hu
    rw [Nat.add_assoc]; exact hcell _ u hu
  · rw [List.getElem?_drop] at hu hx
    exact hc _ u x hu hx
theorem Mem.slot {S : Nat → Prop} {vals : List Value} {bss : List (List Nat)} {w : World} (hm : Mem C T S vals bss w) {r k : Nat} {x : AV} (h : T.slots[r]? = some (k, x)) : ∃ v bs, vals[r]? = some v ∧ bss[r]? = some bs ∧ Rep C.P S w bs v x := by
  have hr : r < T.slots.length := (List.getElem?_eq_some_iff.1 h).1
  have h1 := List.getElem?_eq_getElem (l := vals) (i := r) (by rw [hm.nv]; exact hr)
  have h2 := List.getElem?_eq_getElem (l := bss) (i := r) (by rw [hm.nb]; exact hr)
  exact ⟨_, _, h1, h2, hm.rep _ _ _ _ _ h h1 h2⟩
theorem op_nil_slot {y : Operand} {r k i j : Nat} {e : TypeId} {es : List (List AV)} (ho : o.op = .nilCheck y) (hy : ev y = .ptr r k i j) (hT : T.slots[r]? = some (k, .own e es)) : OpP C o ev T (.ptr r k i j) := by
  intro a w S vals bss hm h
  have h1 := h y (by simp [ho, Op.operands])
  rw [hy] at h1
  obtain ⟨v, bs, hv, hb, hrep⟩ := hm.slot hT
  obtain ⟨us, sz, bss', -, hi, -, -, -, -, -⟩ := hrep.own_inv
  obtain ⟨-, g, n, cap, -, e⟩ := h1.2.2 e es v sz hT hv hi
  exact ⟨a.eval y, fun w => by simp [execOp, ho, e], h1⟩
theorem op_fa_ptr {t ft : TypeId} {y : Operand} {f off n r k i j : Nat} {e : TypeId} {es : List (List AV)} (ho : o.op = .fieldAddr t y f) (hy : ev y = .ptr r k i j) (hT : T.slots[r]? = some (k, .own e es)) (hf : fieldIs C.P t f off ft) (hs : sizeIs C.P ft n) (hn : n ≠ 0) {j' : Nat} (hj : j + off = j') : OpP C o ev T (.ptr r k i j') := by
  intro a w S vals bss hm h
  have h1 := h y (by simp [ho, Op.operands])
  rw [hy] at h1
  obtain ⟨v, bs, hv, hb, hrep⟩ := hm.slot hT
  obtain ⟨us, sz, bss', -, hi, -, -, -, -, -⟩ := hrep.own_inv
  obtain ⟨hil, g, m, cap, hve, e'⟩ := h1.2.2 e es v sz hT hv hi
  refine ⟨.pointer (some ⟨g, i * sz + j + off, none⟩), fun w => by simp [execOp, ho, e', run_fieldAt hf hs hn, add_off], ⟨h1.1, rfl, ?_⟩⟩
  intro e2 es2 v2 sz2 hT2 hv2 hi2
  rw [hT] at hT2
  injection hT2 with hT2
  injection hT2 with _ hT2
  injection hT2 with h3 h4
  subst h3; subst h4
  rw [hv] at hv2
  injection hv2 with hv2
  subst hv2
  have := hi.inj hi2
  subst this
  refine ⟨hil, g, m, cap, hve, ?_⟩
  rw [← hj, Nat.add_assoc]
end
end Go.Proofs.Ytmihcabjoodogaa
namespace Go.Proofs.Ytmihcabjoodogaa
open Go.RowKit
set_option linter.unusedSimpArgs false
set_option linter.unusedVariables false
theorem Rep.ro_get {P : Program} {S : Nat → Prop} {w : World} {bs : List Nat} {u : Value} {es : List (List AV)} (h : Rep P S w bs u (.ro es)) {m : Nat} {row : List AV} (hm : es[m]? = some row) (hn : 0 < row.length) :
    ∃ g o c, u = .slice (some ⟨g, o, none⟩) es.length c ∧ es.length ≤ c ∧ c ≤ maxLen ∧ Rep P S w [] (.pointer (some ⟨g, o + m * row.length, none⟩)) (.rop row) := by
  obtain ⟨-, A, c, sz, us, rfl, h1, h2, h3, h4, h5, h6⟩ := h.ro_inv
  have hrow : row.length = sz := h3 row (List.mem_of_getElem? hm)
  have hml : m < es.length := (List.getElem?_eq_some_iff.1 hm).1
  have hfl := flat_len h3
  have hle : m * sz + sz ≤ es.length * sz := by rw [← Nat.succ_mul]; exact Nat.mul_le_mul_right _ hml
  obtain ⟨g, o, rfl, hS, hc⟩ := h4 (by omega)
  refine ⟨g, o, c, rfl, h1, h2, ?_⟩
  rw [hrow]
  refine Rep.rop (us := (us.drop (m * sz)).take sz) (fun _ => ⟨g, o + m * sz, rfl, hS, fun j u hu => ?_⟩) (by rw [List.length_take, List.length_drop]; omega) fun i u x hu hx => ?_
  · rw [List.getElem?_take] at hu
    split at hu
    · rw [List.getElem?_drop] at hu
      rw [Nat.add_assoc]; exact hc _ u hu
    · cases hu
  · rw [List.getElem?_take] at hu
    split at hu
    · rw [List.getElem?_drop] at hu
      exact h6 _ u x hu (flat_at h3 hm hx)
    · cases hu
theorem elem_eq {P : Program} {t e : TypeId} (h : P.underlying t = some (.slice e)) : P.elem t = e := by simp [Program.elem, h]
section
variable {C : Cx} {o : Oper} {ev : Operand → AV} {T : Sl}
theorem op_ia_ro {t e : TypeId} {y i : Operand} {es : List (List AV)} {kk : IntKind} {n : Int} (m : Nat) {row : List AV} (ho : o.op = .indexAddr t y i) (hy : ev y = .ro es ∨ ev y = .rof es) (hi : ev i = .v (.int kk n))
    (ht : C.P.underlying t = some (.slice e)) (hn : n = (m : Int)) (hm : es[m]? = some row) (hs : sizeIs C.P e row.length) (h0 : 0 < row.length) : OpP C o ev T (.rop row) := by
  intro a w S vals bss hme h
  have h1 := h y (by simp [ho, Op.operands])
  have h2 := h i (by simp [ho, Op.operands])
  rw [hi] at h2
  have h3 : Rep C.P S w [] (a.eval y) (.ro es) := by
    rcases hy with hy | hy
    · rw [hy] at h1; exact h1
    · rw [hy] at h1; exact Rep.ro_of_rof h1
  obtain ⟨g, oo, c, e1, h4, h5, h6⟩ := h3.ro_get hm h0
  have hml : m < es.length := (List.getElem?_eq_some_iff.1 hm).1
  refine ⟨_, fun w => ?_, h6⟩
  have hee := elem_eq ht
  subst hn
  have hlt : (m : Int) < (es.length : Int) := by omega
  simp [execOp, ho, e1, h2.v, run_indexAt_slice w t _ _ _ _ _ (by rw [hee]; exact ht), hlt, hee, run_sizeOf hs, add_off]
theorem op_ia_sl {t e : TypeId} {y i : Operand} {es : List (List AV)} {kk : IntKind} {n : Int} {r k off len : Nat} (m : Nat) (sz : Nat) (ho : o.op = .indexAddr t y i) (hy : ev y = .sl r k off len) (hi : ev i = .v (.int kk n))
    (hT : T.slots[r]? = some (k, .own e es)) (ht : C.P.underlying t = some (.slice e)) (hn : n = (m : Int)) (hm : m < len) (hs : sizeIs C.P e sz) {j : Nat} (hj : off + m = j) : OpP C o ev T (.ptr r k j 0) := by
  intro a w S vals bss hme h
  have h1 := h y (by simp [ho, Op.operands])
  have h2 := h i (by simp [ho, Op.operands])
  rw [hi] at h2
  rw [hy] at h1
  obtain ⟨v, bs, hv, hb, hrep⟩ := hme.slot hT
  obtain ⟨hol, A, nn, cap, hve, h3, h4, h5, h6⟩ := h1.2.2 e es v sz hT hv hs
  have hee := elem_eq ht
  have key : ∃ g cc, A = some ⟨g, 0, none⟩ ∧ a.eval y = .slice (some ⟨g, off * sz, none⟩) len cc := by
    obtain ⟨us, sz', bss', -, -, -, hown, -⟩ := hrep.own_inv
    rcases h6 with ⟨h7, h8⟩ | ⟨A', -, h7, h8⟩
    · rcases hown.2 with ⟨hnil, h0⟩ | ⟨g, cap', cur, hcap, -⟩
      · rw [hve] at hnil; injection hnil with e1 e2 e3; omega
      · rw [hve] at hcap
        injection hcap with e1 e2 e3
        subst e1; subst h7
        exact ⟨g, cap, rfl, by rw [h8]; simp⟩
    · obtain ⟨g, hA, hA'⟩ := h8 (by omega)
      exact ⟨g, _, hA, by rw [h7, hA']⟩
  obtain ⟨g, cc, hA, he⟩ := key
  subst hn
  have hlt : (m : Int) < (len : Int) := by omega
  refine ⟨.pointer (some ⟨g, off * sz + m * sz, none⟩), fun w => ?_, ⟨h1.1, rfl, ?_⟩⟩
  · simp [execOp, ho, he, h2.v, run_indexAt_slice w t _ _ _ _ _ (by rw [hee]; exact ht), hlt, hee, run_sizeOf hs, add_off]
  · intro e2 es2 v2 sz2 hT2 hv2 hi2
    rw [hT] at hT2
    injection hT2 with hT2
    injection hT2 with _ hT2
    injection hT2 with h3 h4
    subst h3; subst h4
    rw [hv] at hv2
    injection hv2 with hv2
    subst hv2
    have := hs.inj hi2
    subst this
    refine ⟨by omega, g, nn, cap, by rw [hve, hA], ?_⟩
    rw [← hj, Nat.add_mul, Nat.add_zero]
/-- The cells at a pointer into a slot. -/
theorem ptr_cells {S : Nat → Prop} {vals : List Value} {bss : List (List Nat)} {w : World} (hme : Mem C T S vals bss w) {u : Value} {r k i j : Nat} {e : TypeId} {es : List (List AV)} (hT : T.slots[r]? = some (k, .own e es)) (h : TmpOK C.P S w T vals u (.ptr r k i j)) {row : List AV} (hrow : es[i]? = some row) :
    ∃ g oo, u = .pointer (some ⟨g, oo, none⟩) ∧ ∀ q x, row[j + q]? = some x → ∃ c bs, w.cell? ⟨g, oo + q, none⟩ = some c ∧ Rep C.P S w bs c x := by
  obtain ⟨v, bs, hv, hb, hrep⟩ := hme.slot hT
  obtain ⟨us, sz, bss', -, hi, hsz, hown, hul, hbl, hc⟩ := hrep.own_inv
  obtain ⟨hil, g, nn, cap, hve, he⟩ := h.2.2 e es v sz hT hv hi
  refine ⟨g, _, he, fun q x hx => ?_⟩
  have hf := flat_at hsz hrow hx
  have hlt : i * sz + (j + q) < us.length := by rw [hul]; exact (List.getElem?_eq_some_iff.1 hf).1
  have h1 := List.getElem?_eq_getElem hlt
  have h2 := List.getElem?_eq_getElem (l := bss') (by rw [hbl]; exact hlt)
  refine ⟨_, _, ?_, hc _ _ _ _ h1 hf h2⟩
  have := hown.cells (g := g) (by rw [hve]; rfl) _ _ h1
  rw [add_off, Nat.zero_add] at this
  rw [Nat.add_assoc]
  exact this
theorem op_load_rop1 {t : TypeId} {y : Operand} {x : AV} {cs : List AV} (ho : o.op = .load t y) (hy : ev y = .rop (x :: cs)) (ha : aggB C.P t = some false) : OpR C o ev T x := by
  intro a w S vals bss hm h
  have h1 := h y (by simp [ho, Op.operands])
  rw [hy] at h1
  obtain ⟨-, A, us, e, hr, hlen, hc⟩ := (show Rep C.P S w [] _ (.rop (x :: cs)) from h1).rop_inv
  obtain ⟨g, oo, hA, hS, hcell⟩ := hr (by rw [hlen]; simp)
  injection hA with hA
  subst hA
  have hu := List.getElem?_eq_getElem (l := us) (i := 0) (by rw [hlen]; simp)
  refine ⟨_, fun w' hk => ?_, (Rep.ref (hc 0 _ x hu rfl)).tmp⟩
  have hcc := hk.cell (hcell 0 _ hu) trivial
  have hl := run_loadOne (P := C.P) ha ⟨g, oo, none⟩ _ w' hcc
  simp [execOp, ho, e, Instr.loadAt, Instr.sureAddr, hl]
theorem op_load_ptr {t : TypeId} {y : Operand} {n r k i j : Nat} {e : TypeId} {es : List (List AV)} {row xs : List AV} (ho : o.op = .load t y) (hy : ev y = .ptr r k i j) (hT : T.slots[r]? = some (k, .own e es)) (hrow : es[i]? = some row) (ha : aggB C.P t = some true) (hs : sizeIs C.P t n) (hn : j + n ≤ row.length) (hx : ((row.drop j).take n).map ldc = xs) : OpR C o ev T (.agg xs) := by
  intro a w S vals bss hm h
  have h1 := h y (by simp [ho, Op.operands])
  rw [hy] at h1
  obtain ⟨g, oo, he, hc⟩ := ptr_cells hm hT h1 hrow
  have hget : ∀ q, q < n → ∃ x c, row[j + q]? = some x ∧ w.cell? ⟨g, oo + q, none⟩ = some c ∧ Rep C.P S w [] c (ldc x) := fun q hq => by
    have hx := List.getElem?_eq_getElem (l := row) (i := j + q) (by omega)
    obtain ⟨c, bs, h3, h4⟩ := hc q _ hx
    exact ⟨_, c, hx, h3, h4.ldc⟩
  obtain ⟨us, hul, hus⟩ : ∃ us : List Value, us.length = n ∧ ∀ q u, us[q]? = some u → w.cell? ⟨g, oo + q, none⟩ = some u := by
    refine ⟨(List.range n).map fun q => (w.cell? ⟨g, oo + q, none⟩).getD undef, by simp, fun q u hu => ?_⟩
    have hq : q < n := by have := (List.getElem?_eq_some_iff.1 hu).1; simpa using this
    obtain ⟨x, c, _, h3, _⟩ := hget q hq
    simp [hq, h3] at hu
    rw [h3, hu]
  refine ⟨.agg us.toArray, fun w' hk => ?_, ⟨_, rfl, ?_⟩⟩
  · have hl := run_loadVar (P := C.P) ha hs ⟨g, oo, none⟩ us hul w' fun q u hu => by
      rw [add_off]; exact hk.cell (hus q u hu) trivial
    simp [execOp, ho, he, Instr.loadAt, Instr.sureAddr, hl]
  · subst hx
    refine ⟨by simp [hul]; omega, fun q u x hu hx => ?_⟩
    simp only at hu
    rw [List.getElem?_map, List.getElem?_take] at hx
    have hq : q < n := by have := (List.getElem?_eq_some_iff.1 hu).1; omega
    rw [if_pos hq, List.getElem?_drop] at hx
    obtain ⟨x', c, h2, h3, h4⟩ := hget q hq
    rw [h2] at hx
    simp at hx
    subst hx
    have := hus q u hu
    rw [h3] at this
    injection this with this
    subst this
    exact Rep.ref h4
theorem op_load_ptr1 {t : TypeId} {y : Operand} {r k i j : Nat} {e : TypeId} {es : List (List AV)} {row : List AV} {x x' : AV} (ho : o.op = .load t y) (hy : ev y = .ptr r k i j) (hT : T.slots[r]? = some (k, .own e es)) (hrow : es[i]? = some row) (ha : aggB C.P t = some false) (hx : row[j]? = some x) (hx' : ldc x = x') : OpR C o ev T x' := by
  intro a w S vals bss hm h
  have h1 := h y (by simp [ho, Op.operands])
  rw [hy] at h1
  obtain ⟨g, oo, he, hc⟩ := ptr_cells hm hT h1 hrow
  obtain ⟨c, bs, h3, h4⟩ := hc 0 x hx
  subst hx'
  refine ⟨c, fun w' hk => ?_, (Rep.ref h4.ldc).tmp⟩
  have hl := run_loadOne (P := C.P) ha ⟨g, oo, none⟩ _ w' (hk.cell h3 trivial)
  simp [execOp, ho, he, Instr.loadAt, Instr.sureAddr, hl]
/-- len -/
def lenA : AV → Option Nat
  | .sln n => some n
  | .ro es => some es.length
  | .rof es => some es.length
  | .v (.slice _ n _) => some n
  | .sl _ _ _ n => some n
  | .v (.string s) => some s.size
  | _ => none
theorem op_len_ro {t : TypeId} {y : Operand} {n : Nat} {x : AV} {e : TypeId} (ho : o.op = .call { callee := .builtin .len, args := #[y], argTypes := #[t] }) (hy : ev y = x) (ht : C.P.underlying t = some (.slice e))
    (hx : x = .sln n ∨ (∃ es, x = .ro es ∧ es.length = n) ∨ (∃ es, x = .rof es ∧ es.length = n) ∨ (n = 0 ∧ x = .v (.slice none 0 0))) : OpP C o ev T (.v (.int .i64 n)) := by
  intro a w S vals bss hm h
  have h1 := h y (by simp [ho, Op.operands, Call.operands])
  rw [hy] at h1
  obtain ⟨A, c, e1, -, -⟩ := lenOf_slice h1 hx
  refine ⟨_, fun w => ?_, TmpOK.v_ rfl⟩
  have hee := elem_eq ht
  simp [execOp, ho, resolve, invoke, builtin, e1, run_len_slice w t _ _ _ _ (by rw [hee]; exact ht), goInt]
theorem op_len_sl {t : TypeId} {y : Operand} {r k off len : Nat} {e e' : TypeId} {es : List (List AV)} (ho : o.op = .call { callee := .builtin .len, args := #[y], argTypes := #[t] }) (hy : ev y = .sl r k off len) (hT : T.slots[r]? = some (k, .own e es)) (ht : C.P.underlying t = some (.slice e')) : OpP C o ev T (.v (.int .i64 len)) := by
  intro a w S vals bss hm h
  have h1 := h y (by simp [ho, Op.operands, Call.operands])
  rw [hy] at h1
  obtain ⟨v, bs, hv, hb, hrep⟩ := hm.slot hT
  obtain ⟨us, sz', bss', -, hs, -⟩ := hrep.own_inv
  obtain ⟨hol, A, nn, cap, hve, h3, h4, h5, h6⟩ := h1.2.2 e es v _ hT hv hs
  have : ∃ A c, a.eval y = .slice A len c := by
    rcases h6 with ⟨_, h⟩ | ⟨A', _, h, _⟩
    · exact ⟨_, _, h⟩
    · exact ⟨_, _, h⟩
  obtain ⟨A, c, e1⟩ := this
  refine ⟨_, fun w => ?_, TmpOK.v_ rfl⟩
  have hee := elem_eq ht
  simp [execOp, ho, resolve, invoke, builtin, e1, run_len_slice w t _ _ _ _ (by rw [hee]; exact ht), goInt]
theorem op_len_str {t : TypeId} {y : Operand} {s : ByteArray} (ho : o.op = .call { callee := .builtin .len, args := #[y], argTypes := #[t] }) (hy : ev y = .v (.string s)) (ht : C.P.underlying t = some .string) : OpP C o ev T (.v (.int .i64 s.size)) := by
  intro a w S vals bss hm h
  have h1 := h y (by simp [ho, Op.operands, Call.operands])
  rw [hy] at h1
  exact ⟨_, fun w => by simp [execOp, ho, resolve, invoke, builtin, h1.v, run_len_string w t _ _ ht, goInt], TmpOK.v_ rfl⟩
/-- A conversion between integers. -/
theorem op_conv {s d : TypeId} {y : Operand} {k k' : IntKind} {n m : Int} {sd : TypeDesc} (ho : o.op = .convert s d y) (hy : ev y = .v (.int k n)) (hs : C.P.underlying s = some sd) (hd : C.P.underlying d = some (.int k')) (hm : k'.wrap n = m) : OpP C o ev T (.v (.int k' m)) := by
  intro a w S vals bss hme h
  have h1 := h y (by simp [ho, Op.operands])
  rw [hy] at h1
  exact ⟨_, fun w => by simp [execOp, ho, h1.v, convert, run_underlying hs, run_underlying hd, Conv.intToInt, hm], TmpOK.v_ rfl⟩
theorem op_min {t1 t2 : TypeId} {y z : Operand} {k k' : IntKind} {n m r : Int} (ho : o.op = .call { callee := .builtin .min, args := #[y, z], argTypes := #[t1, t2] }) (hy : ev y = .v (.int k n)) (hz : ev z = .v (.int k' m)) (hr : (if m < n then m else n) = r) : OpP C o ev T (.v (.int k r)) := by
  intro a w S vals bss hme h
  have h1 := h y (by simp [ho, Op.operands, Call.operands])
  have h2 := h z (by simp [ho, Op.operands, Call.operands])
  rw [hy] at h1
  rw [hz] at h2
  exact ⟨_, fun w => by simp [execOp, ho, resolve, invoke, builtin, Builtin.min_, Builtin.min2, h1.v, h2.v, hr], TmpOK.v_ rfl⟩
end
end Go.Proofs.Ytmihcabjoodogaa
namespace Go.Proofs.Ytmihcabjoodogaa
open Go.RowKit
set_option linter.unusedSimpArgs false
set_option linter.unusedVariables false
section
variable {C : Cx} {T : Sl} {S : Nat → Prop} {vals : List Value} {bss : List (List Nat)} {w w' : World}
theorem getElem?_snoc {α : Type} (l : List α) (a : α) (i : Nat) : (l ++ [a])[i]? = if i < l.length then l[i]? else if i = l.length then some a else none := by
  by_cases h : i < l.length
  · rw [if_pos h, List.getElem?_append_left h]
  · rw [if_neg h, List.getElem?_append_right (by omega)]
    by_cases h2 : i = l.length
    · rw [if_pos h2, h2]; simp
    · rw [if_neg h2, List.getElem?_eq_none (by simp; omega)]
theorem Mem.push (hm : Mem C T S vals bss w) (hk : Kept (fun _ => True) w w') {x : AV} {v : Value} {bs : List Nat} (hr : Rep C.P S w' bs v x) (hn : bs.Nodup) (hb : ∀ b ∈ bs, w.heap.size ≤ b) :
    Mem C ⟨T.slots ++ [(T.ep, x)], T.ep + 1⟩ S (vals ++ [v]) (bss ++ [bs]) w' ∧ Follows C.P S w T vals S w' ⟨T.slots ++ [(T.ep, x)], T.ep + 1⟩ (vals ++ [v]) := by
  have hw := hm.kept.size
  have hbl : ∀ (r : Nat) (bs : List Nat), bss[r]? = some bs → ∀ b ∈ bs, b < w.heap.size := fun r bs h b hb' => by
    have hr' : r < T.slots.length := by rw [← hm.nb]; exact (List.getElem?_eq_some_iff.1 h).1
    have h1 := List.getElem?_eq_getElem hr'
    have h2 := List.getElem?_eq_getElem (l := vals) (i := r) (by rw [hm.nv]; exact hr')
    exact (hm.rep r _ _ _ _ h1 h2 h).lt b hb'
  constructor
  · refine ⟨hm.kept.then hk (fun _ _ _ => trivial), hm.s0, hm.sub, fun k h => Nat.lt_of_lt_of_le (hm.lt k h) hk.size, by simp [hm.nv], by simp [hm.nb], ?_, ?_, ?_, ?_, ?_, ?_, ?_, by simp⟩
    · intro r k y u bs' h1 h2 h3
      rw [getElem?_snoc] at h1 h2 h3
      rw [hm.nv] at h2
      rw [hm.nb] at h3
      by_cases h : r < T.slots.length
      · rw [if_pos h] at h1 h2 h3
        exact (hm.rep r k y u bs' h1 h2 h3).kept hk (fun _ _ _ => trivial) fun _ _ => trivial
      · rw [if_neg h] at h1 h2 h3
        by_cases h' : r = T.slots.length
        · rw [if_pos h'] at h1 h2 h3
          injection h1 with h1; injection h1 with _ h1
          injection h2 with h2; injection h3 with h3
          subst h1; subst h2; subst h3
          exact hr
        · rw [if_neg h'] at h1; cases h1
    · intro r bs' h
      rw [getElem?_snoc] at h
      split at h
      · exact hm.nodup r bs' h
      · split at h
        · injection h with h; subst h; exact hn
        · cases h
    · intro r r' b1 b2 hne h1 h2 b hb1 hb2
      rw [getElem?_snoc] at h1 h2
      split at h1
      · have hlt := hbl r b1 h1 b hb1
        split at h2
        · exact hm.disj r r' b1 b2 hne h1 h2 b hb1 hb2
        · split at h2
          · injection h2 with h2; subst h2; have := hb b hb2; omega
          · cases h2
      · split at h1
        · injection h1 with h1; subst h1
          have hge := hb b hb1
          split at h2
          · have := hbl r' b2 h2 b hb2; omega
          · split at h2
            · omega
            · cases h2
        · cases h1
    · intro r bs' h b hb'
      rw [getElem?_snoc] at h
      split at h
      · exact hm.apart r bs' h b hb'
      · split at h
        · injection h with h; subst h
          intro hs
          have := hm.lt b hs; have := hb b hb'; omega
        · cases h
    · intro r bs' h b hb'
      rw [getElem?_snoc] at h
      split at h
      · exact hm.mine r bs' h b hb'
      · split at h
        · injection h with h; subst h
          have := hb b hb'; right; omega
        · cases h
    · intro r y hlt h
      rw [getElem?_snoc] at h
      rw [getElem?_snoc, hm.nv]
      by_cases h' : r < T.slots.length
      · rw [if_pos h'] at h ⊢
        exact hm.root r y hlt h
      · rw [if_neg h'] at h ⊢
        by_cases h2 : r = T.slots.length
        · rw [if_pos h2] at h
          injection h with h
          injection h with h _
          have := hm.pos; omega
        · rw [if_neg h2] at h; cases h
    · intro r k y h
      rw [getElem?_snoc] at h
      split at h
      · have := hm.ver r k y h; simp; omega
      · split at h
        · injection h with h; injection h with h _; subst h; simp
        · cases h
  · intro u y h
    have hold : ∀ (r k : Nat) (x' : AV), k < T.ep → (T.slots ++ [(T.ep, x)])[r]? = some (k, x') → T.slots[r]? = some (k, x') ∧ (vals ++ [v])[r]? = vals[r]? := fun r k x' hk' h => by
      rw [getElem?_snoc] at h
      rw [getElem?_snoc, hm.nv]
      split at h
      · rename_i hl; rw [if_pos hl]; exact ⟨h, rfl⟩
      · split at h
        · injection h with h; injection h with h _; omega
        · cases h
    cases y with
    | sl r k off len =>
      refine ⟨by have := h.1; simp; omega, h.2.1, fun e es v' sz h1 h2 h3 => ?_⟩
      obtain ⟨h4, h5⟩ := hold r k _ h.1 h1
      rw [h5] at h2
      exact h.2.2 e es v' sz h4 h2 h3
    | ptr r k i j =>
      refine ⟨by have := h.1; simp; omega, h.2.1, fun e es v' sz h1 h2 h3 => ?_⟩
      obtain ⟨h4, h5⟩ := hold r k _ h.1 h1
      rw [h5] at h2
      exact h.2.2 e es v' sz h4 h2 h3
    | mp r k =>
      refine ⟨by have := h.1; simp; omega, h.2.1, fun b ks v' h1 h2 => ?_⟩
      obtain ⟨h4, h5⟩ := hold r k _ h.1 h1
      rw [h5] at h2
      exact h.2.2 b ks v' h4 h2
    | _ => exact RefOK.kept (T := T) h hk (fun _ _ _ => trivial) (fun _ h => h)
theorem Mem.blt (hm : Mem C T S vals bss w) {r : Nat} {bs : List Nat} (h : bss[r]? = some bs) : ∀ b ∈ bs, b < w.heap.size := fun b hb' => by
  have hr' : r < T.slots.length := by rw [← hm.nb]; exact (List.getElem?_eq_some_iff.1 h).1
  have h1 := List.getElem?_eq_getElem hr'
  have h2 := List.getElem?_eq_getElem (l := vals) (i := r) (by rw [hm.nv]; exact hr')
  exact (hm.rep r _ _ _ _ h1 h2 h).lt b hb'
theorem getElem?_set_ {α : Type} (l : List α) (i j : Nat) (a : α) (h : i < l.length) : (l.set i a)[j]? = if i = j then some a else l[j]? := by
  rw [List.getElem?_set]
  split
  · rename_i e; subst e; first | rfl | rw [if_pos h]
  · rfl
/-- Slot r is turned: k' is its old version and its value the old one, or the version is new. -/
theorem Mem.set {r k k' ep' : Nat} {x x' : AV} {v v' : Value} {bs bs' : List Nat} (hm : Mem C T S vals bss w) (hs : T.slots[r]? = some (k, x)) (hv : vals[r]? = some v) (hb : bss[r]? = some bs) (hk : Kept (fun q => q ∉ bs) w w')
    (hr : Rep C.P S w' bs' v' x') (hn : bs'.Nodup) (hsub : ∀ b ∈ bs', b ∈ bs ∨ w.heap.size ≤ b)
    (hver : (k' = k ∧ ep' = T.ep ∧ v' = v ∧ (∀ e es, x' = .own e es → ∃ es0, x = .own e es0 ∧ es0.length = es.length) ∧ (∀ b ks, x' = .om b ks → ∃ ks0, x = .om b ks0)) ∨ (k' = T.ep ∧ ep' = T.ep + 1)) :
    Mem C ⟨T.slots.set r (k', x'), ep'⟩ S (vals.set r v') (bss.set r bs') w' ∧ Follows C.P S w T vals S w' ⟨T.slots.set r (k', x'), ep'⟩ (vals.set r v') := by
  have hrl : r < T.slots.length := (List.getElem?_eq_some_iff.1 hs).1
  have hep : T.ep ≤ ep' := by rcases hver with h | h <;> omega
  have hkS : ∀ q, q < w.heap.size → S q → q ∉ bs := fun q _ hq hqb => hm.apart r bs hb q hqb hq
  constructor
  · refine ⟨hm.kept.then hk fun q hq hq' hqb => ?_, hm.s0, hm.sub, fun q h => Nat.lt_of_lt_of_le (hm.lt q h) hk.size, by simp [hm.nv], by simp [hm.nb], ?_, ?_, ?_, ?_, ?_, ?_, ?_, by show 0 < ep'; have := hm.pos; omega⟩
    · rcases hm.mine r bs hb q hqb with h | h
      · exact hq' h
      · omega
    · intro q kq y u b1 h1 h2 h3
      rw [getElem?_set_ _ _ _ _ hrl] at h1
      rw [getElem?_set_ _ _ _ _ (by rw [hm.nv]; exact hrl)] at h2
      rw [getElem?_set_ _ _ _ _ (by rw [hm.nb]; exact hrl)] at h3
      by_cases h : r = q
      · rw [if_pos h] at h1 h2 h3
        injection h1 with h1; injection h1 with _ h1
        injection h2 with h2; injection h3 with h3
        subst h1; subst h2; subst h3
        exact hr
      · rw [if_neg h] at h1 h2 h3
        exact (hm.rep q kq y u b1 h1 h2 h3).kept hk hkS fun b hb' hbb => hm.disj r q bs b1 h hb h3 b hbb hb'
    · intro q b1 h3
      rw [getElem?_set_ _ _ _ _ (by rw [hm.nb]; exact hrl)] at h3
      split at h3
      · injection h3 with h3; subst h3; exact hn
      · exact hm.nodup q b1 h3
    · intro q q' b1 b2 hne h1 h2 b hb1 hb2
      rw [getElem?_set_ _ _ _ _ (by rw [hm.nb]; exact hrl)] at h1 h2
      split at h1
      · rename_i e1
        injection h1 with h1; subst h1
        rw [if_neg (fun e2 => hne (e1.symm.trans e2))] at h2
        rcases hsub b hb1 with h | h
        · exact hm.disj r q' bs b2 (fun e2 => hne (e1.symm.trans e2)) hb h2 b h hb2
        · have := hm.blt h2 b hb2; omega
      · rename_i e1
        split at h2
        · injection h2 with h2; subst h2
          rename_i e2
          rcases hsub b hb2 with h | h
          · exact hm.disj r q bs b1 e1 hb h1 b h hb1
          · have := hm.blt h1 b hb1; omega
        · exact hm.disj q q' b1 b2 hne h1 h2 b hb1 hb2
    · intro q b1 h1 b hb1 hSb
      rw [getElem?_set_ _ _ _ _ (by rw [hm.nb]; exact hrl)] at h1
      split at h1
      · injection h1 with h1; subst h1
        rcases hsub b hb1 with h | h
        · exact hm.apart r bs hb b h hSb
        · have := hm.lt b hSb; omega
      · exact hm.apart q b1 h1 b hb1 hSb
    · intro q b1 h1 b hb1
      rw [getElem?_set_ _ _ _ _ (by rw [hm.nb]; exact hrl)] at h1
      split at h1
      · injection h1 with h1; subst h1
        rcases hsub b hb1 with h | h
        · exact hm.mine r bs hb b h
        · have := hm.kept.size; right; omega
      · exact hm.mine q b1 h1 b hb1
    · intro q y hlt h
      rw [getElem?_set_ _ _ _ _ hrl] at h
      rw [getElem?_set_ _ _ _ _ (by rw [hm.nv]; exact hrl)]
      split at h
      · rename_i e1
        rw [if_pos e1]
        injection h with h; injection h with h _
        rcases hver with ⟨h1, h2, h3, _⟩ | ⟨h1, h2⟩
        · subst h3
          subst e1
          have := hm.root r x hlt (by rw [hs, ← h1, h])
          rw [← this, hv]
        · have := hm.pos; omega
      · rename_i e1
        rw [if_neg e1]
        exact hm.root q y hlt h
    · intro q kq y h
      rw [getElem?_set_ _ _ _ _ hrl] at h
      show kq < ep'
      split at h
      · injection h with h; injection h with h _
        have := hm.ver r k x hs
        rcases hver with ⟨h1, h2, _⟩ | ⟨h1, h2⟩ <;> omega
      · have := hm.ver q kq y h; omega
  · intro u y h
    have old : ∀ (q kq : Nat) (y' : AV), kq < T.ep → (T.slots.set r (k', x'))[q]? = some (kq, y') → (r ≠ q ∧ T.slots[q]? = some (kq, y') ∧ (vals.set r v')[q]? = vals[q]?) ∨ (r = q ∧ kq = k ∧ x' = y' ∧ v' = v ∧ (vals.set r v')[q]? = some v ∧ (∀ e es, x' = .own e es → ∃ es0, x = .own e es0 ∧ es0.length = es.length) ∧ (∀ b ks, x' = .om b ks → ∃ ks0, x = .om b ks0)) := fun q kq y' hkq h => by
      rw [getElem?_set_ _ _ _ _ hrl] at h
      rw [getElem?_set_ _ _ _ _ (by rw [hm.nv]; exact hrl)]
      split at h
      · rename_i e1
        injection h with h; injection h with h h'
        rcases hver with ⟨h1, h2, h3, h4, h5⟩ | ⟨h1, h2⟩
        · exact .inr ⟨e1, by omega, h', h3, by rw [if_pos e1, h3], h4, h5⟩
        · omega
      · rename_i e1
        exact .inl ⟨e1, h, by rw [if_neg e1]⟩
    cases y with
    | sl q kq off len =>
      refine ⟨Nat.lt_of_lt_of_le h.1 hep, h.2.1, fun e es v2 sz h1 h2 h3 => ?_⟩
      rcases old q kq _ h.1 h1 with ⟨_, h4, h5⟩ | ⟨rfl, rfl, hx, _, h5, h6, _⟩
      · rw [h5] at h2; exact h.2.2 e es v2 sz h4 h2 h3
      · rw [h5] at h2
        injection h2 with h2; subst h2
        obtain ⟨es0, hx0, hl⟩ := h6 e es hx
        rw [← hl]
        exact h.2.2 e es0 v sz (by rw [hs, hx0]) hv h3
    | ptr q kq i j =>
      refine ⟨Nat.lt_of_lt_of_le h.1 hep, h.2.1, fun e es v2 sz h1 h2 h3 => ?_⟩
      rcases old q kq _ h.1 h1 with ⟨_, h4, h5⟩ | ⟨rfl, rfl, hx, _, h5, h6, _⟩
      · rw [h5] at h2; exact h.2.2 e es v2 sz h4 h2 h3
      · rw [h5] at h2
        injection h2 with h2; subst h2
        obtain ⟨es0, hx0, hl⟩ := h6 e es hx
        rw [← hl]
        exact h.2.2 e es0 v sz (by rw [hs, hx0]) hv h3
    | mp q kq =>
      refine ⟨Nat.lt_of_lt_of_le h.1 hep, h.2.1, fun b ks v2 h1 h2 => ?_⟩
      rcases old q kq _ h.1 h1 with ⟨_, h4, h5⟩ | ⟨rfl, rfl, hx, _, h5, _, h6⟩
      · rw [h5] at h2; exact h.2.2 b ks v2 h4 h2
      · rw [h5] at h2
        injection h2 with h2; subst h2
        obtain ⟨ks0, hx0⟩ := h6 b ks hx
        exact h.2.2 b ks0 v (by rw [hs, hx0]) hv
    | _ => exact RefOK.kept (T := T) h hk hkS (fun _ h => h)
end
end Go.Proofs.Ytmihcabjoodogaa
namespace Go.Proofs.Ytmihcabjoodogaa
open Go.RowKit
set_option linter.unusedSimpArgs false
set_option linter.unusedVariables false
/-- What is stored of a datum: a reference is not. -/
def stc : AV → AV
  | .sl _ _ _ _ => .any
  | .ptr _ _ _ _ => .any
  | .mp _ _ => .any
  | .nm _ _ _ => .any
  | .byt _ _ _ => .any
  | .om _ _ => .any
  | x => x
theorem RefOK.stc {P : Program} {S : Nat → Prop} {w : World} {T : Sl} {vals : List Value} {u : Value} {x : AV} (h : RefOK P S w T vals u x) : Rep P S w [] u (stc x) := by
  cases x with
  | sl => exact .any h.2.1
  | ptr => exact .any h.2.1
  | mp => exact .any h.2.1
  | nm => exact .any h
  | byt => exact .any h
  | om => exact .any h
  | _ => exact h
/-- The cells of a datum. -/
def rowOf : AV → Option (List AV)
  | .agg cs => some (cs.map stc)
  | .tup _ => none
  | .any => none
  | x => some [stc x]
theorem TmpOK.row {P : Program} {S : Nat → Prop} {w : World} {T : Sl} {vals : List Value} {u : Value} {x : AV} {row : List AV} (h : TmpOK P S w T vals u x) (hr : rowOf x = some row) : RL (Rep P S w []) u.cells.toList row := by
  cases x with
  | agg cs =>
    obtain ⟨us, rfl, r⟩ := h.agg
    simp [rowOf] at hr
    subst hr
    refine ⟨by simp [Value.cells, ← r.1], fun i u x hu hx => ?_⟩
    rw [List.getElem?_map] at hx
    cases hc : cs[i]? with
    | none => rw [hc] at hx; cases hx
    | some c =>
      rw [hc] at hx
      simp at hx
      subst hx
      exact (r.2 i u c hu hc).stc
  | tup => cases hr
  | any => cases hr
  | _ =>
    simp only [rowOf, Option.some.injEq] at hr
    simp only [TmpOK, AggOK] at h
    subst hr
    have h1 := RefOK.one h
    have h2 : u.cells.toList = [u] := by cases u <;> first | rfl | cases h1
    rw [h2]
    exact RL.cons (RefOK.stc h) RL.nil
def splice {α : Type} (cs : List α) (off : Nat) (xs : List α) : List α := cs.take off ++ xs ++ cs.drop (off + xs.length)
theorem splice_len {α : Type} (cs : List α) (off : Nat) (xs : List α) (h : off + xs.length ≤ cs.length) : (splice cs off xs).length = cs.length := by
  unfold splice; simp; omega
theorem RL.spl {α β : Type} {R : α → β → Prop} {us vs : List α} {xs ys : List β} (h : RL R us xs) (h' : RL R vs ys) (off : Nat) : RL R (splice us off vs) (splice xs off ys) := by
  unfold splice
  have h1 := h.part 0 off
  simp only [List.drop_zero] at h1
  have h2 := h.part (off + vs.length) us.length
  rw [List.take_of_length_le (by simp)] at h2
  rw [List.take_of_length_le (by simp [h.1])] at h2
  rw [h'.1] at h2
  exact (h1.append h').append (by rw [h'.1]; exact h2)
theorem fold_set (off : Nat) : ∀ (l : List Value) (j : Nat) (cs : Array Value), off + j + l.length ≤ cs.size → ((l.zipIdx j).foldl (fun cs (c, j) => cs.setIfInBounds (off + j) c) cs).toList = splice cs.toList (off + j) l
  | [], j, cs, h => by simp [splice]
  | v :: l, j, cs, h => by
    simp only [List.length_cons] at h
    rw [List.zipIdx_cons, List.foldl_cons, fold_set off l (j + 1) _ (by simp; omega), Array.toList_setIfInBounds]
    have := list_seg_step cs.toList (off + j) v l (by simp; omega)
    unfold splice
    rw [← Nat.add_assoc, this]
    simp
theorem fill_run (place : Nat → Option (Nat × Nat)) : ∀ (parts : List (Nat × Value)) (cells : Array Value), (∀ p ∈ parts, ∃ off, place p.1 = some (off, p.2.cells.size) ∧ off + p.2.cells.size ≤ cells.size) →
    Instr.fill place cells parts = some (parts.foldl (fun cs p => splice cs ((place p.1).getD (0, 0)).1 p.2.cells.toList) cells.toList).toArray
  | [], cells, _ => by simp [Instr.fill]
  | (i, v) :: rest, cells, h => by
    obtain ⟨off, hp, hle⟩ := h (i, v) (by simp)
    simp only at hp hle
    have hf : (v.cells.zipIdx.foldl (fun cs (c, j) => cs.setIfInBounds (off + j) c) cells).toList = splice cells.toList off v.cells.toList := by
      have := fold_set off v.cells.toList 0 cells (by simp; omega)
      rw [Nat.add_zero] at this
      rw [← this]
      congr 1
      rw [← Array.foldl_toList]
      congr 1
      simp
    have hsz : (v.cells.zipIdx.foldl (fun cs (c, j) => cs.setIfInBounds (off + j) c) cells).size = cells.size := by
      rw [← Array.length_toList, hf, splice_len _ _ _ (by simp; omega)]; simp
    unfold Instr.fill
    simp only [hp]
    rw [if_neg (by simp; omega)]
    rw [fill_run place rest _ (fun p hp' => by
      obtain ⟨o, h1, h2⟩ := h p (by simp [hp'])
      exact ⟨o, h1, by rw [hsz]; exact h2⟩)]
    rw [List.foldl_cons, hf]
    simp [hp]
/-- A type of the table: its zero, its size. -/
def zeroIs (P : Program) (t : TypeId) (z : Value) (sz bytes : Nat) : Prop := (P.info? t).map (fun i => (i.zero, i.size, i.bytes)) = some (some z, sz, bytes) ∧ z.cells.size = sz ∧ z.cells.all (·.oneCell') = true
theorem zeroIs.size {P : Program} {t : TypeId} {z : Value} {sz b : Nat} (h : zeroIs P t z sz b) : sizeIs P t sz := by
  obtain ⟨h, -, -⟩ := h
  unfold sizeIs
  cases hi : P.info? t with
  | none => rw [hi] at h; cases h
  | some i => rw [hi] at h; simp at h; simp [h]
theorem zeroIs.run {P : Program} {t : TypeId} {z : Value} {sz b : Nat} (h : zeroIs P t z sz b) (w : World) : (zeroValue t).run P w = .ok z w := by
  obtain ⟨h, -, -⟩ := h
  cases hi : P.info? t with
  | none => rw [hi] at h; cases h
  | some i => rw [hi] at h; simp at h; simp [zeroValue, typeInfo, hi, h]
theorem zeroIs.rl {P : Program} {t : TypeId} {z : Value} {sz b : Nat} (h : zeroIs P t z sz b) {S : Nat → Prop} {w : World} : RL (Rep P S w []) z.cells.toList (z.cells.toList.map .v) := by
  refine ⟨by simp, fun i u x hu hx => ?_⟩
  rw [List.getElem?_map, hu] at hx
  simp at hx
  subst hx
  have := Array.all_eq_true_iff_forall_mem.1 h.2.2 u (Array.mem_toList_iff.1 (List.mem_of_getElem? hu))
  exact .v this
section
variable {C : Cx} {o : Oper} {ev : Operand → AV} {T : Sl}
def pushT (T : Sl) (x : AV) : Sl := ⟨T.slots ++ [(T.ep, x)], T.ep + 1⟩
theorem rep_new {P : Program} {S : Nat → Prop} {w : World} {e : TypeId} {sz : Nat} {es : List (List AV)} {us : List Value} (hi : sizeIs P e sz) (hs : ∀ x ∈ es, x.length = sz) (hm : es.length ≤ maxLen) (hr : RL (Rep P S w []) us es.flatten) :
    Rep P S (w.alloc (.cells us.toArray e)) [w.heap.size] (.slice (some ⟨w.heap.size, 0, none⟩) es.length es.length) (.own e es) := by
  have ho := World.ownsRow_lit (base := 0) (e := e) (size := sz) w us.toArray es.length (Nat.zero_le _) hm (by simp; rw [hr.1, flat_len hs])
  have hk : Kept (fun _ => True) w (w.alloc (.cells us.toArray e)) := (Kept.refl _ _).alloc _
  have := Rep.own (P := P) (S := S) (bss := List.replicate us.length []) hi hs (us := us) (by simpa using ho) hr.1 (by simp) fun i u x bs hu hx hb => by
    have : bs = [] := by
      rw [List.getElem?_replicate] at hb
      split at hb <;> simp_all
    subst this
    exact (hr.2 i u x hu hx).kept hk (fun _ _ _ => trivial) (by simp)
  have e1 : (List.replicate us.length ([] : List Nat)).flatten = [] := by simp
  rw [e1] at this
  exact this
theorem op_new_ptr {e : TypeId} {sz : Nat} {row : List AV} (hi : sizeIs C.P e sz) (hl : row.length = sz)
    (h : ∀ (a : Act) (w : World) (S : Nat → Prop) (vals : List Value) (bss : List (List Nat)), Mem C T S vals bss w → (∀ y ∈ o.op.operands, TmpOK C.P S w T vals (a.eval y) (ev y)) →
      ∃ us, (execOp a.eval o).run C.P w = .ok (.value (.pointer (some ⟨w.heap.size, 0, none⟩))) (w.alloc (.cells us.toArray e)) ∧ RL (Rep C.P S w []) us row) : OpJ C o ev T (.ptr T.slots.length T.ep 0 0) (pushT T (.own e [row])) := by
  intro a w S vals bss hm ho K hK Q
  obtain ⟨us, hrun, hr⟩ := h a w S vals bss hm ho
  have hrep := rep_new (es := [row]) hi (by simpa using hl) (by unfold maxLen; simp) (us := us) (by simpa using hr)
  obtain ⟨hm', hf⟩ := hm.push ((Kept.refl _ _).alloc (.cells us.toArray e)) hrep (by simp) (by simp)
  unfold Oper.wp
  rw [hrun]
  refine hK _ _ _ _ _ hm' hf ⟨by simp [pushT], rfl, fun e' es v sz' h1 h2 h3 => ?_⟩
  have h1 : (T.slots ++ [_])[T.slots.length]? = _ := h1
  rw [getElem?_snoc, if_neg (Nat.lt_irrefl _), if_pos rfl] at h1
  rw [getElem?_snoc, hm.nv, if_neg (Nat.lt_irrefl _), if_pos rfl] at h2
  injection h1 with h1; injection h1 with _ h1
  injection h1 with h1 h4
  injection h2 with h2
  subst h1; subst h2; subst h4
  exact ⟨by simp, _, _, _, rfl, by simp⟩
theorem op_new_sl {e : TypeId} {sz : Nat} {es : List (List AV)} (hi : sizeIs C.P e sz) (hs : ∀ x ∈ es, x.length = sz) (hl : es.length ≤ maxLen)
    (h : ∀ (a : Act) (w : World) (S : Nat → Prop) (vals : List Value) (bss : List (List Nat)), Mem C T S vals bss w → (∀ y ∈ o.op.operands, TmpOK C.P S w T vals (a.eval y) (ev y)) →
      ∃ us, (execOp a.eval o).run C.P w = .ok (.value (.slice (some ⟨w.heap.size, 0, none⟩) es.length es.length)) (w.alloc (.cells us.toArray e)) ∧ RL (Rep C.P S w []) us es.flatten) : OpJ C o ev T (.sl T.slots.length T.ep 0 es.length) (pushT T (.own e es)) := by
  intro a w S vals bss hm ho K hK Q
  obtain ⟨us, hrun, hr⟩ := h a w S vals bss hm ho
  have hrep := rep_new (es := es) hi hs hl (us := us) hr
  obtain ⟨hm', hf⟩ := hm.push ((Kept.refl _ _).alloc (.cells us.toArray e)) hrep (by simp) (by simp)
  unfold Oper.wp
  rw [hrun]
  refine hK _ _ _ _ _ hm' hf ⟨by simp [pushT], rfl, fun e' es' v sz' h1 h2 h3 => ?_⟩
  have h1 : (T.slots ++ [_])[T.slots.length]? = _ := h1
  rw [getElem?_snoc, if_neg (Nat.lt_irrefl _), if_pos rfl] at h1
  rw [getElem?_snoc, hm.nv, if_neg (Nat.lt_irrefl _), if_pos rfl] at h2
  injection h1 with h1; injection h1 with _ h1
  injection h1 with h1 h4
  injection h2 with h2
  subst h1; subst h2; subst h4
  exact ⟨by simp, _, _, _, rfl, by simp, Nat.le_refl _, hl, .inl ⟨rfl, rfl⟩⟩
theorem op_alloc {t : TypeId} {z : Value} {sz b : Nat} {row : List AV} (ho : o.op = .alloc t) (hz : zeroIs C.P t z sz b) (hrow : z.cells.toList.map .v = row) : OpJ C o ev T (.ptr T.slots.length T.ep 0 0) (pushT T (.own t [row])) := by
  refine op_new_ptr hz.size (by rw [← hrow]; simp [hz.2.1]) fun a w S vals bss hm h => ⟨z.cells.toList, ?_, by rw [← hrow]; exact hz.rl⟩
  simp [execOp, ho, Instr.alloc, hz.run, newVar, newRow]
theorem op_box {t : TypeId} {y : Operand} {x : AV} {sz : Nat} {row : List AV} (ho : o.op = .box t y) (hy : ev y = x) (hrow : rowOf x = some row) (hs : sizeIs C.P t sz) (hl : row.length = sz) : OpJ C o ev T (.ptr T.slots.length T.ep 0 0) (pushT T (.own t [row])) := by
  refine op_new_ptr hs hl fun a w S vals bss hm h => ?_
  have h1 := h y (by simp [ho, Op.operands])
  rw [hy] at h1
  exact ⟨_, by simp [execOp, ho, Instr.box, newVar, newRow], h1.row hrow⟩
end
end Go.Proofs.Ytmihcabjoodogaa
namespace Go.Proofs.Ytmihcabjoodogaa
open Go.RowKit
set_option linter.unusedSimpArgs false
set_option linter.unusedVariables false
theorem flatten_set {sz : Nat} : ∀ {es : List (List AV)}, (∀ e ∈ es, e.length = sz) → ∀ {i : Nat} {row : List AV}, es[i]? = some row → ∀ (j : Nat) (xs : List AV), j + xs.length ≤ row.length →
    (es.set i (splice row j xs)).flatten = splice es.flatten (i * sz + j) xs
  | [], _, i, row, h, _, _, _ => by simp at h
  | e :: es, hs, i, row, h, j, xs, hj => by
    have he := hs e (by simp)
    cases i with
    | zero =>
      simp at h
      subst h
      unfold splice
      rw [List.set_cons_zero, List.flatten_cons, List.flatten_cons, Nat.zero_mul, Nat.zero_add, List.take_append_of_le_length (by omega), List.drop_append_of_le_length hj]
      simp
    | succ i =>
      have ih := flatten_set (es := es) (fun e h => hs e (by simp [h])) (i := i) (by simpa using h) j xs hj
      rw [List.set_cons_succ, List.flatten_cons, ih, List.flatten_cons]
      unfold splice
      have e1 : (i + 1) * sz + j = e.length + (i * sz + j) := by rw [he, Nat.add_mul]; omega
      have h1 : List.take (e.length + (i * sz + j)) (e ++ es.flatten) = e ++ List.take (i * sz + j) es.flatten := by
        rw [List.take_append, List.take_of_length_le (by omega), Nat.add_sub_cancel_left]
      have h2 : List.drop (e.length + (i * sz + j) + xs.length) (e ++ es.flatten) = List.drop (i * sz + j + xs.length) es.flatten := by
        have h0 : List.drop (e.length + (i * sz + j) + xs.length) e = [] := List.drop_eq_nil_of_le (by omega)
        rw [List.drop_append, h0, List.nil_append, Nat.add_assoc, Nat.add_sub_cancel_left]
      rw [e1, h1, h2]
      simp
theorem splice_get {α : Type} (cs : List α) (p : Nat) (xs : List α) (h : p + xs.length ≤ cs.length) (i : Nat) : (splice cs p xs)[i]? = if i < p then cs[i]? else if i < p + xs.length then xs[i - p]? else cs[i]? := by
  unfold splice
  have hl : (cs.take p).length = p := by rw [List.length_take]; omega
  by_cases h1 : i < p
  · rw [if_pos h1, List.append_assoc, List.getElem?_append_left (by omega), List.getElem?_take, if_pos h1]
  · rw [if_neg h1, List.append_assoc, List.getElem?_append_right (by omega), hl]
    by_cases h2 : i < p + xs.length
    · rw [if_pos h2, List.getElem?_append_left (by omega)]
    · rw [if_neg h2, List.getElem?_append_right (by omega), List.getElem?_drop]
      congr 1; omega
/-- Cells of an owned row are written: vs, which stand for xs and own bvs. -/
theorem Rep.own_set {P : Program} {S : Nat → Prop} {w : World} {bs : List Nat} {v : Value} {e : TypeId} {es : List (List AV)} (h : Rep P S w bs v (.own e es)) (hnd : bs.Nodup) (hap : ∀ b ∈ bs, ¬ S b) {i j : Nat} {row : List AV} (hrow : es[i]? = some row)
    {vs : List Value} {xs : List AV} {bvs : List (List Nat)} (hb1 : bvs.length = vs.length) (hx1 : vs.length = xs.length) (hr : ∀ (q : Nat) (u : Value) (x : AV) (b : List Nat), vs[q]? = some u → xs[q]? = some x → bvs[q]? = some b → Rep P S w b u x) (hbv : ∀ b ∈ bvs.flatten, b ∉ bs) (hbn : bvs.flatten.Nodup) (hj : j + xs.length ≤ row.length) :
    ∃ g cap cur sz bs', v = .slice (some ⟨g, 0, none⟩) es.length cap ∧ w.heap[g]? = some (.cells cur e (0, 0)) ∧ sizeIs P e sz ∧ i * sz + j + vs.length ≤ cur.size ∧ g ∈ bs ∧
      Rep P S (w.setRow g (cur.toList.take (i * sz + j) ++ vs ++ cur.toList.drop (i * sz + j + vs.length)).toArray) bs' v (.own e (es.set i (splice row j xs))) ∧ bs'.Nodup ∧ (∀ b ∈ bs', b ∈ bs ∨ b ∈ bvs.flatten) := by
  obtain ⟨us, sz, bss, rfl, hi, hsz, hown, hul, hbl, hc⟩ := h.own_inv
  have hil : i < es.length := (List.getElem?_eq_some_iff.1 hrow).1
  have hrl : row.length = sz := hsz row (List.mem_of_getElem? hrow)
  have hle : i * sz + sz ≤ es.length * sz := by rw [← Nat.succ_mul]; exact Nat.mul_le_mul_right _ hil
  have hfl := flat_len hsz
  rcases hown.2 with ⟨rfl, h0⟩ | ⟨g, cap, cur, rfl, -, hg, hnc, hcm, hcs, htake⟩
  · omega
  have hcl : es.length * sz ≤ cur.size := by rw [hcs]; exact Nat.mul_le_mul_right _ hnc
  have hlen : i * sz + j + vs.length ≤ us.length := by omega
  have hown' : (Value.slice (some ⟨g, 0, none⟩) es.length cap).ownBlock.toList = [g] := rfl
  rw [hown'] at hnd hap hbv ⊢
  simp only [List.singleton_append, List.nodup_cons] at hnd
  refine ⟨g, cap, cur, sz, [g] ++ (splice bss (i * sz + j) bvs).flatten, rfl, hg, hi, by omega, by simp, ?_, ?_, ?_⟩
  · have hcur : (splice cur.toList (i * sz + j) vs).take (es.length * sz) = splice us (i * sz + j) vs := by
      apply List.ext_getElem?
      intro q
      rw [splice_get us _ _ hlen, List.getElem?_take, splice_get cur.toList _ _ (by simp; omega)]
      by_cases hq : q < es.length * sz
      · rw [if_pos hq]
        have : us[q]? = cur.toList[q]? := by rw [← htake, List.getElem?_take, if_pos hq]
        rw [this]
      · rw [if_neg hq, if_neg (by omega), if_neg (by omega), List.getElem?_eq_none (by omega)]
    have hset : (es.set i (splice row j xs)).length = es.length := by simp
    have hg' := setRow_heap w g cur (splice cur.toList (i * sz + j) vs).toArray e (0, 0) hg
    have ho' : (w.setRow g (splice cur.toList (i * sz + j) vs).toArray).ownsRow 0 e sz (.slice (some ⟨g, 0, none⟩) es.length cap) (es.set i (splice row j xs)).length (splice us (i * sz + j) vs) := by
      rw [hset]
      exact ⟨by rw [splice_len _ _ _ hlen, hul, hfl], .inr ⟨g, cap, _, rfl, Nat.zero_le _, hg', hnc, hcm, by rw [← hcs, ← Array.length_toList]; show (splice _ _ _).length = _; rw [splice_len _ _ _ (by simp; omega)]; simp, by simpa using hcur⟩⟩
    have hk : Kept (fun q => q ≠ g) w (w.setRow g (splice cur.toList (i * sz + j) vs).toArray) := ⟨rfl, rfl, rfl, by simp, fun k _ hk => setRow_other w g k _ hk⟩
    refine Rep.own (us := splice us (i * sz + j) vs) hi ?_ ho' ?_ ?_ ?_
    · intro x hx
      rcases List.mem_or_eq_of_mem_set hx with h1 | h1
      · exact hsz x h1
      · rw [h1, splice_len _ _ _ hj, hrl]
    · rw [flatten_set hsz hrow j xs hj, splice_len _ _ _ hlen, splice_len _ _ _ (by omega), hul]
    · rw [splice_len _ _ _ hlen, splice_len _ _ _ (by omega), hbl]
    · intro q u x b h1 h2 h3
      rw [flatten_set hsz hrow j xs hj, splice_get _ _ _ (by omega)] at h2
      rw [splice_get _ _ _ hlen] at h1
      rw [splice_get _ _ _ (by omega), hb1] at h3
      rw [← hx1] at h2
      have hgS : ∀ k, k < w.heap.size → S k → k ≠ g := fun k _ hk he => hap g (by simp) (he ▸ hk)
      have old : ∀ (u : Value) (x : AV) (b : List Nat), us[q]? = some u → es.flatten[q]? = some x → bss[q]? = some b → Rep P S (w.setRow g (splice cur.toList (i * sz + j) vs).toArray) b u x := fun u x b h1 h2 h3 =>
        (hc q u x b h1 h2 h3).kept hk hgS fun b' hb' he => hnd.1 (he ▸ List.mem_flatten.2 ⟨b, List.mem_of_getElem? h3, hb'⟩)
      split at h1
      · rename_i h5; rw [if_pos h5] at h2 h3; exact old u x b h1 h2 h3
      · rename_i h5
        rw [if_neg h5] at h2 h3
        split at h1
        · rename_i h6
          rw [if_pos h6] at h2 h3
          refine (hr _ u x b h1 h2 h3).kept hk hgS fun b' hb' he => hbv b' (List.mem_flatten.2 ⟨b, List.mem_of_getElem? h3, hb'⟩) (by simp [he])
        · rename_i h6; rw [if_neg h6] at h2 h3; exact old u x b h1 h2 h3
  · have hsp : (splice bss (i * sz + j) bvs).flatten = (bss.take (i * sz + j)).flatten ++ bvs.flatten ++ (bss.drop (i * sz + j + bvs.length)).flatten := by unfold splice; simp
    have hsplit : bss.flatten = (bss.take (i * sz + j)).flatten ++ (((bss.drop (i * sz + j)).take bvs.length).flatten ++ (bss.drop (i * sz + j + bvs.length)).flatten) := by
      rw [← List.flatten_append, ← List.flatten_append]
      congr 1
      generalize i * sz + j = p
      have e1 : bss.drop (p + bvs.length) = (bss.drop p).drop bvs.length := by rw [List.drop_drop]
      rw [e1, List.take_append_drop, List.take_append_drop]
    have hn0 := hnd.2
    rw [hsplit, List.nodup_append, List.nodup_append] at hn0
    obtain ⟨n1, ⟨-, n2, -⟩, n3'⟩ := hn0
    have n3 : ∀ a ∈ (bss.take (i * sz + j)).flatten, ∀ b ∈ (bss.drop (i * sz + j + bvs.length)).flatten, a ≠ b := fun a ha b hb => n3' a ha b (List.mem_append_right _ hb)
    have hb2 : ∀ b ∈ bvs.flatten, b ∉ bss.flatten := fun b hb h => hbv b hb (by simp only [List.mem_append]; exact .inr h)
    have m1 : ∀ b ∈ (bss.take (i * sz + j)).flatten, b ∈ bss.flatten := fun b hb => by rw [hsplit]; exact List.mem_append_left _ hb
    have m2 : ∀ b ∈ (bss.drop (i * sz + j + bvs.length)).flatten, b ∈ bss.flatten := fun b hb => by rw [hsplit]; exact List.mem_append_right _ (List.mem_append_right _ hb)
    rw [List.singleton_append, List.nodup_cons, hsp]
    refine ⟨fun h => ?_, ?_⟩
    · rcases List.mem_append.1 h with h | h
      · rcases List.mem_append.1 h with h | h
        · exact hnd.1 (m1 g h)
        · exact hbv g h (by simp)
      · exact hnd.1 (m2 g h)
    · rw [List.nodup_append, List.nodup_append]
      refine ⟨⟨n1, hbn, fun a ha b hb he => ?_⟩, n2, fun a ha b hb he => ?_⟩
      · subst he; exact hb2 a hb (m1 a ha)
      · subst he
        rcases List.mem_append.1 ha with h | h
        · exact n3 a h a hb rfl
        · exact hb2 a h (m2 a hb)
  · intro b hb
    rcases List.mem_append.1 hb with h | h
    · exact .inl (List.mem_append_left _ h)
    · have hsp : (splice bss (i * sz + j) bvs).flatten = (bss.take (i * sz + j)).flatten ++ bvs.flatten ++ (bss.drop (i * sz + j + bvs.length)).flatten := by unfold splice; simp
      rw [hsp] at h
      have sub : ∀ l : List (List Nat), (∀ x ∈ l, x ∈ bss) → b ∈ l.flatten → b ∈ bss.flatten := fun l hl hb => by
        obtain ⟨y, h1, h2⟩ := List.mem_flatten.1 hb
        exact List.mem_flatten.2 ⟨y, hl y h1, h2⟩
      rcases List.mem_append.1 h with h | h
      · rcases List.mem_append.1 h with h | h
        · exact .inl (List.mem_append_right _ (sub _ (fun x hx => List.mem_of_mem_take hx) h))
        · exact .inr h
      · exact .inl (List.mem_append_right _ (sub _ (fun x hx => List.mem_of_mem_drop hx) h))
section
variable {C : Cx} {o : Oper} {ev : Operand → AV} {T : Sl}
theorem run_store_at {P : Program} {t : TypeId} {n : Nat} (hs : sizeIs P t n) (g oo : Nat) (e : TypeId) (cur : Array Value) (u : Value) (w : World) (hg : w.heap[g]? = some (.cells cur e (0, 0))) (hl : u.cells.size = n) (hfit : oo + u.cells.size ≤ cur.size) (h1 : ∀ v ∈ u.cells.toList, v.oneCell' = true) :
    (Instr.storeAt t (.pointer (some ⟨g, oo, none⟩)) u).run P w = .ok () (w.setRow g (cur.toList.take oo ++ u.cells.toList ++ cur.toList.drop (oo + u.cells.toList.length)).toArray) := by
  have := run_storeCells_at P g oo e u.cells.toList 0 cur w hg (by simpa using hfit) h1
  simp only [Nat.add_zero] at this
  simp [Instr.storeAt, Instr.sureAddr, storeVar, run_sizeOf hs, hl, this]
theorem op_store {t : TypeId} {y z : Operand} {x : AV} {r k i j n : Nat} {e : TypeId} {es : List (List AV)} {row xs : List AV} (ho : o.op = .store t y z) (hy : ev y = .ptr r k i j) (hz : ev z = x) (hT : T.slots[r]? = some (k, .own e es)) (hrow : es[i]? = some row) (hx : rowOf x = some xs) (hs : sizeIs C.P t n) (hn : xs.length = n) (hj : j + xs.length ≤ row.length)
    {es' : List (List AV)} (he : es.set i (splice row j xs) = es') : OpJ C o ev T .any ⟨T.slots.set r (k, .own e es'), T.ep⟩ := by
  intro a w S vals bss hm h K hK Q
  have h1 := h y (by simp [ho, Op.operands])
  have h2 := h z (by simp [ho, Op.operands])
  rw [hy] at h1
  rw [hz] at h2
  obtain ⟨v, bs, hv, hb, hrep⟩ := hm.slot hT
  have hrl := h2.row hx
  obtain ⟨g, cap, cur, sz, bs', hve, hg, hsz, hfit, hgb, hrep', hnd', hsub⟩ := hrep.own_set (hm.nodup r bs hb) (hm.apart r bs hb) hrow (vs := (a.eval z).cells.toList) (xs := xs) (bvs := List.replicate xs.length []) (by simp only [List.length_replicate]; exact hrl.1.symm) hrl.1 (fun q u x b h1 h2 h3 => by
    have : b = [] := by rw [List.getElem?_replicate] at h3; split at h3 <;> simp_all
    subst this
    exact hrl.2 q u x h1 h2) (by simp) (by simp) hj
  obtain ⟨hil, g', n', cap', hve', hae⟩ := h1.2.2 e es v sz hT hv hsz
  rw [hve] at hve'
  injection hve' with e1 e2 e3
  injection e1 with e1
  injection e1 with e1
  subst e1
  have hrun := run_store_at (P := C.P) hs g (i * sz + j) e cur (a.eval z) w hg (by rw [← hn, ← hrl.1]; simp) (by simpa using hfit) fun u hu => by
    obtain ⟨q, hq, rfl⟩ := List.getElem_of_mem hu
    exact (hrl.2 q _ (xs[q]'(by rw [← hrl.1]; exact hq)) (List.getElem?_eq_getElem _) (List.getElem?_eq_getElem _)).one
  have hk : Kept (fun q => q ∉ bs) w (w.setRow g (cur.toList.take (i * sz + j) ++ (a.eval z).cells.toList ++ cur.toList.drop (i * sz + j + (a.eval z).cells.toList.length)).toArray) := ⟨rfl, rfl, rfl, by simp, fun k _ hk' => setRow_other w g k _ (fun e => hk' (e ▸ hgb))⟩
  rw [he] at hrep'
  obtain ⟨hm', hf⟩ := hm.set (k' := k) (ep' := T.ep) hT hv hb hk hrep' hnd' (fun b hb' => .inl ((hsub b hb').resolve_right (by simp))) (.inl ⟨rfl, rfl, rfl, fun e' es'' h => by
    injection h with h3 h4
    subst h3; subst h4
    exact ⟨es, rfl, by rw [← he]; simp⟩, fun b ks h => by cases h⟩)
  unfold Oper.wp execOp
  simp only [ho, hae, hrun, Sem.run_bind, Result.andThen_ok, Sem.run_pure, Oper.upon_skip]
  exact hK undef _ _ _ _ hm' hf trivial
end
end Go.Proofs.Ytmihcabjoodogaa
namespace Go.Proofs.Ytmihcabjoodogaa
open Go.RowKit
set_option linter.unusedSimpArgs false
set_option linter.unusedVariables false
section
variable {C : Cx} {o : Oper} {ev : Operand → AV} {T : Sl}
theorem rl_foldl {P : Program} {S : Nat → Prop} {w : World} (f : Nat → Nat) : ∀ (vs : List (Nat × Value)) (xs : List (Nat × List AV)) (us : List Value) (as : List AV), RL (fun u x => u.1 = x.1 ∧ RL (Rep P S w []) u.2.cells.toList x.2) vs xs → RL (Rep P S w []) us as →
    RL (Rep P S w []) (vs.foldl (fun cs p => splice cs (f p.1) p.2.cells.toList) us) (xs.foldl (fun cs p => splice cs (f p.1) p.2) as)
  | [], xs, us, as, h, h' => by
    have : xs = [] := List.eq_nil_of_length_eq_zero h.1.symm
    subst this; exact h'
  | v :: vs, [], us, as, h, h' => by have := h.1; simp at this
  | v :: vs, x :: xs, us, as, h, h' => by
    obtain ⟨v', vs', e, ⟨h1, h2⟩, h3⟩ := h.cons_inv
    injection e with e1 e2
    subst e1; subst e2
    rw [List.foldl_cons, List.foldl_cons, h1]
    exact rl_foldl f vs xs _ _ h3 (h'.spl h2 _)
def evP (a : Act) (ps : Array (Nat × Operand)) : Array (Nat × Value) := ps.map fun (i, x) => (i, a.eval x)
/-- The parts of a literal. -/
theorem parts_rl {a : Act} {w : World} {S : Nat → Prop} {vals : List Value} {ps : Array (Nat × Operand)} {rows : List (Nat × List AV)} (h : ∀ y ∈ (ps.toList.map (·.2)), TmpOK C.P S w T vals (a.eval y) (ev y)) (hp : ps.toList.map (fun p => (p.1, rowOf (ev p.2))) = rows.map (fun p => (p.1, some p.2))) :
    RL (fun (u : Nat × Value) (x : Nat × List AV) => u.1 = x.1 ∧ RL (Rep C.P S w []) u.2.cells.toList x.2) (evP a ps).toList rows := by
  refine ⟨by have := congrArg List.length hp; simpa [evP] using this, fun i u x hu hx => ?_⟩
  simp only [evP, Array.toList_map, List.getElem?_map] at hu
  cases hq : ps.toList[i]? with
  | none => rw [hq] at hu; cases hu
  | some q =>
    rw [hq] at hu
    simp at hu
    have h1 := congrArg (·[i]?) hp
    simp only [List.getElem?_map, hq, hx, Option.map_some, Option.some.injEq] at h1
    injection h1 with h1 h2
    rw [← hu]
    exact ⟨h1, (h q.2 (List.mem_map.2 ⟨q, List.mem_of_getElem? hq, rfl⟩)).row h2⟩
theorem op_buildSlice {t e : TypeId} {n sz b : Nat} {z : Value} {ps : Array (Nat × Operand)} (ho : o.op = .buildSlice t n ps) (rows : List (Nat × List AV)) (es : List (List AV)) (ht : C.P.underlying t = some (.slice e)) (hz : zeroIs C.P e z sz b)
    (hp : ps.toList.map (fun p => (p.1, rowOf (ev p.2))) = rows.map (fun p => (p.1, some p.2))) (hr : ∀ p ∈ rows, p.2.length = sz ∧ p.1 * sz + sz ≤ n * sz) (hes : rows.foldl (fun cs p => splice cs (p.1 * sz) p.2) (List.replicate (n * sz) .any) = es.flatten) (hs : ∀ x ∈ es, x.length = sz) (hn : es.length = n) (hm : n * sz ≤ 2 ^ 24) (hml : n ≤ maxLen) :
    OpJ C o ev T (.sl T.slots.length T.ep 0 n) (pushT T (.own e es)) := by
  subst hn
  refine op_new_sl hz.size hs hml fun a w S vals bss hm' h => ?_
  have hrl := parts_rl (C := C) (T := T) (fun y hy => h y (by simpa [ho, Op.operands] using hy)) hp
  have hzr := hz.run w
  have hsz := run_sizeOf (P := C.P) hz.size w
  have hsz2 : z.cells.size = sz := hz.2.1
  obtain ⟨init, hi, hil⟩ : ∃ init : Array Value, init = ((Array.range (es.length * sz)).map ((if es.length * sz = 0 then #[] else z.cells)[· % (if es.length * sz = 0 then #[] else z.cells).size]!)) ∧ RL (Rep C.P S w []) init.toList (List.replicate (es.length * sz) .any) := by
    refine ⟨_, rfl, by simp, fun i u x hu hx => ?_⟩
    rw [List.getElem?_replicate] at hx
    split at hx
    · injection hx with hx
      subst hx
      rename_i hlt
      have h0 : ¬ es.length * sz = 0 := by omega
      simp only [Array.toList_map, List.getElem?_map, if_neg h0] at hu
      have hlt2 : i < (Array.range (es.length * sz)).toList.length := by simpa using hlt
      rw [List.getElem?_eq_getElem hlt2] at hu
      simp at hu
      have hsp : 0 < sz := by rcases Nat.eq_zero_or_pos sz with h | h <;> simp_all
      have hmod : i % z.cells.size < z.cells.size := Nat.mod_lt _ (by omega)
      rw [getElem!_pos z.cells _ hmod] at hu
      rw [← hu]
      exact .any (Array.all_eq_true_iff_forall_mem.1 hz.2.2 _ (Array.getElem_mem hmod))
    · cases hx
  have hfill := fill_run (fun i => some (i * sz, sz)) (evP a ps).toList init fun p hp => by
    obtain ⟨i, hi', rfl⟩ := List.getElem_of_mem hp
    have hi2 : i < rows.length := by rw [← hrl.1]; exact hi'
    obtain ⟨e1, e2⟩ := hrl.2 i _ _ (List.getElem?_eq_getElem hi') (List.getElem?_eq_getElem hi2)
    obtain ⟨e3, e4⟩ := hr rows[i] (List.getElem_mem hi2)
    have e5 : (evP a ps).toList[i].2.cells.size = sz := by rw [← e3, ← e2.1]; simp
    refine ⟨_, by rw [e5], ?_⟩
    rw [e5, e1]
    have := hil.1
    simp at this
    omega
  refine ⟨(evP a ps).toList.foldl (fun cs p => splice cs (p.1 * sz) p.2.cells.toList) init.toList, ?_, ?_⟩
  · have hm2 : ¬ 16777216 < es.length * sz := by omega
    subst hi
    have he : execOp a.eval o = (do let v ← Instr.buildSlice t es.length (evP a ps); pure (Next.value v) : Sem Next) := by simp only [execOp, ho]; rfl
    rw [he]
    by_cases h0 : es.length * sz = 0
    · simp only [h0, if_true, Array.range_zero', Array.map_empty] at hfill
      simp [Instr.buildSlice, run_underlying ht, hsz, h0, Array.range_zero', hfill, newRow]
    · simp only [h0, if_false] at hfill
      simp [Instr.buildSlice, run_underlying ht, hsz, h0, hm2, hzr, hfill, newRow]
  · rw [← hes]
    exact rl_foldl (fun i => i * sz) _ _ _ _ hrl hil
/-- The cells of a datum, references and all. -/
def rowR : AV → Option (List AV)
  | .agg cs => some cs
  | .tup _ => none
  | .any => none
  | x => some [x]
theorem TmpOK.rowR {P : Program} {S : Nat → Prop} {w : World} {vals : List Value} {u : Value} {x : AV} {row : List AV} (h : TmpOK P S w T vals u x) (hr : rowR x = some row) : RL (RefOK P S w T vals) u.cells.toList row := by
  cases x with
  | agg cs =>
    obtain ⟨us, rfl, r⟩ := h.agg
    simp [Go.Proofs.Ytmihcabjoodogaa.rowR] at hr
    subst hr
    exact r
  | tup => cases hr
  | any => cases hr
  | _ =>
    simp only [Go.Proofs.Ytmihcabjoodogaa.rowR, Option.some.injEq] at hr
    simp only [TmpOK, AggOK] at h
    subst hr
    have h1 := RefOK.one h
    have h2 : u.cells.toList = [u] := by cases u <;> first | rfl | cases h1
    rw [h2]
    exact RL.cons h RL.nil
theorem rl_foldl_ref {P : Program} {S : Nat → Prop} {w : World} {vals : List Value} (f : Nat → Nat) : ∀ (vs : List (Nat × Value)) (xs : List (Nat × List AV)) (us : List Value) (as : List AV), RL (fun u x => u.1 = x.1 ∧ RL (RefOK P S w T vals) u.2.cells.toList x.2) vs xs → RL (RefOK P S w T vals) us as →
    RL (RefOK P S w T vals) (vs.foldl (fun cs p => splice cs (f p.1) p.2.cells.toList) us) (xs.foldl (fun cs p => splice cs (f p.1) p.2) as)
  | [], xs, us, as, h, h' => by
    have : xs = [] := List.eq_nil_of_length_eq_zero h.1.symm
    subst this; exact h'
  | v :: vs, [], us, as, h, h' => by have := h.1; simp at this
  | v :: vs, x :: xs, us, as, h, h' => by
    obtain ⟨v', vs', e, ⟨h1, h2⟩, h3⟩ := h.cons_inv
    injection e with e1 e2
    subst e1; subst e2
    rw [List.foldl_cons, List.foldl_cons, h1]
    exact rl_foldl_ref f vs xs _ _ h3 (h'.spl h2 _)
theorem op_build {t : TypeId} {n b : Nat} {z : Value} {ps : Array (Nat × Operand)} {fs : Array Field} {pl : List (Nat × Nat)} (ho : o.op = .build t ps) (rows : List (Nat × List AV)) (ht : C.P.underlying t = some (.struct fs)) (hpl : fs.toList.mapM (fun f => (C.P.info? f.type).map fun i => (f.offset, i.size)) = some pl) (hz : zeroIs C.P t z n b)
    (hp : ps.toList.map (fun p => (p.1, rowR (ev p.2))) = rows.map (fun p => (p.1, some p.2))) (hr : rows.all (fun p => match pl[p.1]? with | some (off, sz) => p.2.length == sz && off + sz ≤ n | none => false) = true) {xs : List AV} (hx : rows.foldl (fun cs p => splice cs ((pl[p.1]?).getD (0, 0)).1 p.2) (z.cells.toList.map .v) = xs) :
    OpP C o ev T (.agg xs) := by
  intro a w S vals bss hm h
  have hrl : RL (fun (u : Nat × Value) (x : Nat × List AV) => u.1 = x.1 ∧ RL (RefOK C.P S w T vals) u.2.cells.toList x.2) (evP a ps).toList rows := by
    refine ⟨by have := congrArg List.length hp; simpa [evP] using this, fun i u x hu hx => ?_⟩
    simp only [evP, Array.toList_map, List.getElem?_map] at hu
    cases hq : ps.toList[i]? with
    | none => rw [hq] at hu; cases hu
    | some q =>
      rw [hq] at hu
      simp at hu
      have h1 := congrArg (·[i]?) hp
      simp only [List.getElem?_map, hq, hx, Option.map_some, Option.some.injEq] at h1
      injection h1 with h1 h2
      rw [← hu]
      exact ⟨h1, (h q.2 (by simp [ho, Op.operands]; exact ⟨q.1, Array.mem_toList_iff.1 (List.mem_of_getElem? hq)⟩)).rowR h2⟩
  have hfill := fill_run (pl.toArray[·]?) (evP a ps).toList z.cells fun p hp => by
    obtain ⟨i, hi', rfl⟩ := List.getElem_of_mem hp
    have hi2 : i < rows.length := by rw [← hrl.1]; exact hi'
    obtain ⟨e1, e2⟩ := hrl.2 i _ _ (List.getElem?_eq_getElem hi') (List.getElem?_eq_getElem hi2)
    have h3 := List.all_eq_true.1 hr rows[i] (List.getElem_mem hi2)
    rw [e1]
    cases hq : pl[rows[i].1]? with
    | none => rw [hq] at h3; cases h3
    | some q =>
      rw [hq] at h3
      simp only [Bool.and_eq_true, beq_iff_eq, decide_eq_true_eq] at h3
      have e5 : (evP a ps).toList[i].2.cells.size = q.2 := by rw [← h3.1, ← e2.1]; simp
      refine ⟨q.1, by rw [e5]; simp [hq], ?_⟩
      rw [e5, hz.2.1]; exact h3.2
  have hf2 := rl_foldl_ref (T := T) (P := C.P) (S := S) (w := w) (vals := vals) (fun i => ((pl[i]?).getD (0, 0)).1) _ _ _ _ hrl (hz.rl.mono fun u x h => Rep.ref (T := T) (vals := vals) h)
  rw [hx] at hf2
  refine ⟨.agg ((evP a ps).toList.foldl (fun cs p => splice cs ((pl[p.1]?).getD (0, 0)).1 p.2.cells.toList) z.cells.toList).toArray, fun w => ?_, ⟨_, rfl, hf2⟩⟩
  have he : execOp a.eval o = (do let v ← Instr.build t (evP a ps); pure (Next.value v) : Sem Next) := by simp only [execOp, ho]; rfl
  have hpl' := run_places (P := C.P) w fs.toList pl hpl
  have hpl2 : (fs.mapM fun f => do let s ← sizeOf f.type; pure (f.offset, s) : Sem (Array (Nat × Nat))).run C.P w = .ok pl.toArray w := by
    rw [Array.mapM_eq_mapM_toList]
    simp [hpl']
  rw [he]
  have hfill' : Instr.fill (fun x => pl.toArray[x]?) z.cells (evP a ps).toList = _ := hfill
  simp only [Instr.build, Sem.run_bind, hz.run, run_underlying ht, Result.andThen_ok, hpl2, hfill', Sem.run_pure]
  simp
end
end Go.Proofs.Ytmihcabjoodogaa
namespace Go.Proofs.Ytmihcabjoodogaa
open Go.RowKit
set_option linter.unusedSimpArgs false
set_option linter.unusedVariables false
section
variable {C : Cx} {o : Oper} {ev : Operand → AV} {T : Sl}
/-- y is a slice that can be read: its rows. -/
inductive Src (T : Sl) : AV → List (List AV) → Prop
  | ro {es} : Src T (.ro es) es
  | rof {es} : Src T (.rof es) es
  | nil : Src T (.v (.slice none 0 0)) []
  | sl {r k off len e es rows} (hT : T.slots[r]? = some (k, .own e es)) (hr : ((es.drop off).take len).map (·.map ldc) = rows) : Src T (.sl r k off len) rows
theorem ldc_flatten (es : List (List AV)) : (es.map (·.map ldc)).flatten = es.flatten.map ldc := by
  rw [List.map_flatten]
theorem src_cells {S : Nat → Prop} {vals : List Value} {bss : List (List Nat)} {w : World} (hm : Mem C T S vals bss w) {y : AV} {rows : List (List AV)} (h : Src T y rows) {u : Value} (hu : TmpOK C.P S w T vals u y) :
    ∃ A c us sz, u = .slice A rows.length c ∧ (∀ r ∈ rows, r.length = sz) ∧ rows.length ≤ c ∧ c ≤ maxLen ∧ RL (Rep C.P S w []) us rows.flatten ∧ (0 < us.length → ∃ g o, A = some ⟨g, o, none⟩ ∧ ∀ j u, us[j]? = some u → w.cell? ⟨g, o + j, none⟩ = some u) := by
  cases h with
  | ro =>
    obtain ⟨-, A, c, sz, us, e, h1, h2, h3, h4, h5, h6⟩ := hu.ro.ro_inv
    exact ⟨A, c, us, sz, e, h3, h1, h2, ⟨h5, h6⟩, fun hn => by obtain ⟨g, o, e, _, hc⟩ := h4 hn; exact ⟨g, o, e, hc⟩⟩
  | rof =>
    obtain ⟨-, A, sz, us, e, h2, h3, h4, h5, h6⟩ := (show Rep C.P S w [] u (.rof rows) from hu).rof_inv
    exact ⟨A, _, us, sz, e, h3, Nat.le_refl _, h2, ⟨h5, h6⟩, fun hn => by obtain ⟨g, o, e, _, hc⟩ := h4 hn; exact ⟨g, o, e, hc⟩⟩
  | nil => exact ⟨none, 0, [], 0, hu.v, by simp, Nat.le_refl _, by unfold maxLen; simp, RL.nil, fun h => by simp at h⟩
  | sl hT hr =>
    rename_i r k off len e es
    obtain ⟨v, bs, hv, hb, hrep⟩ := hm.slot hT
    obtain ⟨us, sz, bss', -, hi, hsz, hown, hul, hbl, hc⟩ := hrep.own_inv
    obtain ⟨hol, A, nn, cap, hve, h3, h4, h5, h6⟩ := hu.2.2 e es v sz hT hv hi
    have hlen : rows.length = len := by rw [← hr]; simp; omega
    have hflat : rows.flatten = ((es.flatten.drop (off * sz)).take (len * sz)).map ldc := by rw [← hr, ldc_flatten, flat_cut hsz]
    have hfl := flat_len hsz
    have hrl : RL (Rep C.P S w []) ((us.drop (off * sz)).take (len * sz)) rows.flatten := by
      rw [hflat]
      refine ⟨by rw [List.length_map, List.length_take, List.length_take, List.length_drop, List.length_drop, hul], fun i u x hu hx => ?_⟩
      rw [List.getElem?_map, List.getElem?_take] at hx
      rw [List.getElem?_take] at hu
      split at hu
      · rename_i hlt
        rw [if_pos hlt, List.getElem?_drop] at hx
        rw [List.getElem?_drop] at hu
        cases hq : es.flatten[off * sz + i]? with
        | none => rw [hq] at hx; cases hx
        | some x0 =>
          rw [hq] at hx
          simp at hx
          subst hx
          have hlt2 : off * sz + i < bss'.length := by rw [hbl]; exact (List.getElem?_eq_some_iff.1 hu).1
          exact (hc _ u x0 _ hu hq (List.getElem?_eq_getElem hlt2)).ldc
      · cases hu
    have hread : 0 < ((us.drop (off * sz)).take (len * sz)).length → ∃ g o, ∀ A', (off = 0 → A' = A) → (∀ g, 0 < off → A = some ⟨g, 0, none⟩ → A' = some ⟨g, off * sz, none⟩) → A' = some ⟨g, o, none⟩ ∧ ∀ j u, ((us.drop (off * sz)).take (len * sz))[j]? = some u → w.cell? ⟨g, o + j, none⟩ = some u := fun hn => by
      rcases hown.2 with ⟨hnil, h0⟩ | ⟨g, cap', cur, hcap, -, hg, -⟩
      · exfalso
        have : es = [] := List.eq_nil_of_length_eq_zero h0
        rw [this] at hul
        simp at hul
        rw [hul] at hn
        simp at hn
      · rw [hve] at hcap
        injection hcap with e1 e2 e3
        refine ⟨g, off * sz, fun A' ha hb' => ⟨?_, fun j u hu => ?_⟩⟩
        · rcases Nat.eq_zero_or_pos off with h0 | h0
          · rw [ha h0, e1, h0, Nat.zero_mul]
          · exact hb' g h0 e1
        · rw [List.getElem?_take] at hu
          split at hu
          · rw [List.getElem?_drop] at hu
            have := hown.cells (g := g) (by rw [hve, e1]; rfl) _ _ hu
            rw [add_off, Nat.zero_add] at this
            exact this
          · cases hu
    rw [hlen]
    have hrs : ∀ r ∈ rows, r.length = sz := fun r hr' => by
      rw [← hr] at hr'
      obtain ⟨x, hx, rfl⟩ := List.mem_map.1 hr'
      rw [List.length_map]
      exact hsz x (List.mem_of_mem_drop (List.mem_of_mem_take hx))
    rcases h6 with ⟨h7, h8⟩ | ⟨A', -, h7, h8⟩
    · refine ⟨A, cap, _, sz, h8, hrs, by omega, h5, hrl, fun hn => ?_⟩
      obtain ⟨g, o, hgo⟩ := hread hn
      obtain ⟨h9, h10⟩ := hgo A (fun _ => rfl) (fun g h0 _ => by omega)
      exact ⟨g, o, h9, h10⟩
    · refine ⟨A', cap - off, _, sz, h7, hrs, by omega, by omega, hrl, fun hn => ?_⟩
      have hlp : 0 < len := by
        rcases Nat.eq_zero_or_pos len with h | h
        · rw [h] at hn; simp at hn
        · exact h
      obtain ⟨g', hA, hA'⟩ := h8 hlp
      obtain ⟨g, o, hgo⟩ := hread hn
      obtain ⟨h9, h10⟩ := hgo A' (fun h0 => by rw [hA, hA', h0, Nat.zero_mul]) (fun g2 h0 hh => by rw [hA] at hh; injection hh with hh; injection hh with hh; rw [hA', hh])
      exact ⟨g, o, h9, h10⟩
theorem run_append_of_nil {P : Program} (w : World) (t ty e : TypeId) {size : Nat} (ht : P.underlying t = some (.slice e)) (hs : sizeIs P e size)
    (v : Value) (n : Nat) (xs : List Value) (hown : w.ownsRow 0 e size v n xs) (A : Option Addr) (c : Nat) (hA : A = none ∨ ∃ a, A = some a) : (Builtin.append_ #[t, t] ty #[v, .slice A 0 c]).run P w = .ok v w := by
  have hf : (Builtin.firstCells size 0 (.slice A 0 c)).run P w = .ok #[] w := by
    rcases hA with rfl | ⟨a, rfl⟩
    · simp [Builtin.firstCells]
    · have := run_loadCells_list (P := P) w a [] (by simp)
      simp only [List.length_nil] at this
      simp [Builtin.firstCells, this]
  have h1 := run_sizeOf hs w
  rcases hown.2 with ⟨rfl, rfl⟩ | ⟨g, cap, cur, rfl, _, _, hnc, _⟩
  · simp [Builtin.append_, run_underlying ht, h1, Builtin.lenOf, hf]
  · simp [Builtin.append_, run_underlying ht, h1, Builtin.lenOf, hf, hnc, storeCells]
/-- append onto an owned row, or onto nil. -/
theorem run_app {P : Program} {S : Nat → Prop} {w : World} {t e ty : TypeId} {z : Value} {sz b : Nat} (ht : P.underlying t = some (.slice e)) (hz : zeroIs P e z sz b) (h0 : 0 < sz) {bs : List Nat} {v : Value} {es rows : List (List AV)}
    (h : Rep P S w bs v (.own e es)) (hnd : bs.Nodup) (hap : ∀ q ∈ bs, ¬ S q) (hrs : ∀ r ∈ rows, r.length = sz) {A : Option Addr} {c : Nat} {us : List Value} (hr : RL (Rep P S w []) us rows.flatten) (hc : 0 < us.length → ∃ g o, A = some ⟨g, o, none⟩ ∧ ∀ j u, us[j]? = some u → w.cell? ⟨g, o + j, none⟩ = some u)
    (hlen : (es.length + rows.length) * b ≤ 140737488355328) (hml : es.length + rows.length ≤ maxLen) :
    ∃ v' w' bs', (Builtin.append_ #[t, t] ty #[v, .slice A rows.length c]).run P w = .ok v' w' ∧ Rep P S w' bs' v' (.own e (es ++ rows)) ∧ bs'.Nodup ∧ (∀ q ∈ bs', q ∈ bs ∨ w.heap.size ≤ q) ∧ Kept (fun q => q ∉ bs) w w' := by
  obtain ⟨us0, sz0, bss, rfl, hi, hsz, hown, hul, hbl, hcc⟩ := h.own_inv
  have := hi.inj hz.size
  subst this
  have hfl := flat_len hsz
  have hfr := flat_len hrs
  by_cases hn : rows = []
  · subst hn
    have hu0 : us = [] := List.eq_nil_of_length_eq_zero (by rw [hr.1]; rfl)
    refine ⟨v, w, _, run_append_of_nil w t ty e ht hz.size v _ us0 hown A c (by cases A with | none => exact .inl rfl | some a => exact .inr ⟨a, rfl⟩), by rw [List.append_nil]; exact h, hnd, fun q hq => .inl hq, Kept.refl _ _⟩
  have hrp : 0 < rows.length := by
    rcases Nat.eq_zero_or_pos rows.length with h | h
    · exact absurd (List.eq_nil_of_length_eq_zero h) hn
    · exact h
  have husl : us.length = rows.length * sz0 := by rw [hr.1, hfr]
  obtain ⟨g, oo, rfl, hcell⟩ := hc (by rw [husl]; exact Nat.mul_pos hrp h0)
  obtain ⟨hzi, hz2, hz3⟩ := hz
  obtain ⟨i, hii, hz0, hz1, hz4⟩ := info_parts hzi
  obtain ⟨v', w', hrun, ho, hg, -, hb'⟩ := run_append_own_at (P := P) w 0 t ty e i z sz0 b ht hii hz0 hz1 hz4 hz2 h0 v es.length us0 hown ⟨g, oo, none⟩ rows.length c us husl (fun j u hu => by rw [add_off]; exact hcell j u hu)
    (fun u hu => by
      obtain ⟨q, hq, rfl⟩ := List.getElem_of_mem hu
      exact (hr.2 q _ (rows.flatten[q]'(by rw [← hr.1]; exact hq)) (List.getElem?_eq_getElem _) (List.getElem?_eq_getElem _)).one) hml hlen (Nat.zero_le _)
  have hk : Kept (fun q => some q ≠ v.ownBlock) w w' := (Kept.refl _ _).grown hg fun k hk => .inl fun h => h hk.symm
  rw [List.nodup_append] at hnd
  obtain ⟨nd1, nd2, nd3⟩ := hnd
  have hvS : ∀ k, k < w.heap.size → S k → some k ≠ v.ownBlock := fun k _ hk he => hap k (List.mem_append_left _ (by rw [← he]; simp)) hk
  refine ⟨v', w', v'.ownBlock.toList ++ (bss ++ List.replicate us.length []).flatten, hrun, ?_, ?_, ?_, ?_⟩
  · refine Rep.own (us := us0 ++ us) hi ?_ (by rw [List.length_append]; exact ho) (by simp [hul, hr.1]) (by simp [hbl]) fun q u x bq h1 h2 h3 => ?_
    · intro x hx
      rcases List.mem_append.1 hx with h | h
      · exact hsz x h
      · exact hrs x h
    · rw [List.flatten_append] at h2
      by_cases hq : q < us0.length
      · rw [List.getElem?_append_left hq] at h1
        rw [List.getElem?_append_left (by rw [← hul]; exact hq)] at h2
        rw [List.getElem?_append_left (by rw [hbl]; exact hq)] at h3
        refine (hcc q u x bq h1 h2 h3).kept hk hvS fun b' hb' he => ?_
        exact nd3 b' (by rw [← he]; simp) b' (List.mem_flatten.2 ⟨bq, List.mem_of_getElem? h3, hb'⟩) rfl
      · rw [List.getElem?_append_right (by omega)] at h1
        rw [List.getElem?_append_right (by rw [← hul]; omega), ← hul] at h2
        rw [List.getElem?_append_right (by rw [hbl]; omega), hbl] at h3
        have : bq = [] := by rw [List.getElem?_replicate] at h3; split at h3 <;> simp_all
        subst this
        exact (hr.2 _ u x h1 h2).kept hk hvS (by simp)
  · rw [List.flatten_append, List.flatten_replicate_nil, List.append_nil, List.nodup_append]
    refine ⟨by cases v'.ownBlock <;> simp, nd2, fun a ha b hb he => ?_⟩
    subst he
    rcases hb' with h1 | h1
    · rw [h1] at ha; exact nd3 a ha a hb rfl
    · rw [h1] at ha
      simp at ha
      subst ha
      have := h.lt _ (List.mem_append_right _ hb)
      omega
  · intro q hq
    rw [List.flatten_append, List.flatten_replicate_nil, List.append_nil] at hq
    rcases List.mem_append.1 hq with h2 | h2
    · rcases hb' with h1 | h1
      · rw [h1] at h2; exact .inl (List.mem_append_left _ h2)
      · rw [h1] at h2; simp at h2; right; omega
    · exact .inl (List.mem_append_right _ h2)
  · exact hk.mono fun k _ hk' he => hk' (List.mem_append_left _ (by rw [← he]; simp))
/-- append onto a slot. -/
theorem op_app {t e : TypeId} {y s : Operand} {z : Value} {sz b : Nat} {r k : Nat} {es rows : List (List AV)} {sv : AV} (ho : o.op = .call { callee := .builtin .append, args := #[y, s], argTypes := #[t, t] }) {len : Nat} (hy : ev y = .sl r k 0 len) (hs : ev s = sv) (hT : T.slots[r]? = some (k, .own e es)) (hl : len = es.length) (hsrc : Src T sv rows)
    (ht : C.P.underlying t = some (.slice e)) (hz : zeroIs C.P e z sz b) (h0 : 0 < sz) (hsz : ∀ x ∈ rows, x.length = sz) (hb : (es.length + rows.length) * b ≤ 140737488355328) (hb0 : 0 < b) {es' : List (List AV)} (he : es ++ rows = es') {n : Nat} (hn : es.length + rows.length = n) :
    OpJ C o ev T (.sl r T.ep 0 n) ⟨T.slots.set r (T.ep, .own e es'), T.ep + 1⟩ := by
  intro a w S vals bss hm h K hK Q
  have h1 := h y (by simp [ho, Op.operands, Call.operands])
  have h2 := h s (by simp [ho, Op.operands, Call.operands])
  rw [hy] at h1
  rw [hs] at h2
  obtain ⟨v, bs, hv, hbb, hrep⟩ := hm.slot hT
  obtain ⟨A, c, us, sz', e1, h3, h4, h5, h6, h7⟩ := src_cells hm hsrc h2
  have hmax : es.length + rows.length ≤ maxLen := by
    have := Nat.le_mul_of_pos_right (es.length + rows.length) hb0
    unfold maxLen
    omega
  obtain ⟨v', w', bs', hrun, hrep', hnd, hsub, hk⟩ := run_app (P := C.P) (ty := o.type) ht hz h0 hrep (hm.nodup r bs hbb) (hm.apart r bs hbb) hsz (A := A) (c := c) h6 h7 hb hmax
  obtain ⟨us0, sz0, bss0, -, hi0, hsz0, hown, -⟩ := hrep.own_inv
  obtain ⟨hol, A0, nn, cap, hve, g3, g4, g5, g6⟩ := h1.2.2 e es v sz0 hT hv hi0
  have hyv : a.eval y = v := by
    rcases g6 with ⟨-, h8⟩ | ⟨A', h8, _⟩
    · rw [h8, hve, hl]
      rcases hown.2 with ⟨hnil, h0'⟩ | ⟨g, cap', cur, hcap, -⟩
      · rw [hve] at hnil; injection hnil with q1 q2 q3; rw [q2, h0']
      · rw [hve] at hcap; injection hcap with q1 q2 q3; rw [q2]
    · omega
  rw [he] at hrep'
  obtain ⟨hm', hf⟩ := hm.set (k' := T.ep) (ep' := T.ep + 1) hT hv hbb hk hrep' hnd hsub (.inr ⟨rfl, rfl⟩)
  unfold Oper.wp execOp
  simp only [ho, resolve, invoke, builtin, Sem.run_bind, Sem.run_pure, Result.andThen_ok, List.map_toArray, List.map_cons, List.map_nil, hyv, e1, hrun]
  refine hK v' _ _ _ _ hm' hf ⟨by simp, hrep'.one, fun e2 es2 v2 sz2 q1 q2 q3 => ?_⟩
  have hrl : r < T.slots.length := (List.getElem?_eq_some_iff.1 hT).1
  have q1 : (T.slots.set r _)[r]? = _ := q1
  rw [getElem?_set_ _ _ _ _ hrl, if_pos rfl] at q1
  rw [getElem?_set_ _ _ _ _ (by rw [hm.nv]; exact hrl), if_pos rfl] at q2
  injection q1 with q1; injection q1 with _ q1; injection q1 with q1 q4
  injection q2 with q2
  subst q1; subst q2; subst q4
  obtain ⟨us1, sz1, bss1, -, hi1, hsz1, hown1, -⟩ := hrep'.own_inv
  have hel : es'.length = n := by rw [← he, List.length_append, hn]
  refine ⟨by omega, ?_⟩
  rcases hown1.2 with ⟨hnil, h0'⟩ | ⟨g, cap', cur, hcap, -, -, p1, p2, -⟩
  · exact ⟨none, 0, 0, hnil, by omega, Nat.le_refl _, by unfold maxLen; omega, .inl ⟨rfl, by rw [hnil, show n = 0 by omega]⟩⟩
  · exact ⟨_, _, _, hcap, by omega, p1, p2, .inl ⟨rfl, by rw [hcap, hel]⟩⟩
end
end Go.Proofs.Ytmihcabjoodogaa
namespace Go.Proofs.Ytmihcabjoodogaa
open Go.RowKit
set_option linter.unusedSimpArgs false
set_option linter.unusedVariables false
section
variable {C : Cx} {o : Oper} {ev : Operand → AV} {T : Sl}
theorem rep_nil {P : Program} {S : Nat → Prop} {w : World} {e : TypeId} {sz : Nat} (hi : sizeIs P e sz) : Rep P S w [] (.slice none 0 0) (.own e []) := by
  have := Rep.own (P := P) (S := S) (w := w) (v := .slice none 0 0) (e := e) (es := []) (us := []) (sz := sz) (bss := []) hi (by simp) (World.ownsRow_nil _ _ _ _) rfl rfl (by simp)
  exact this
/-- A slice of a new slot. -/
theorem push_sl {S S' : Nat → Prop} {vals : List Value} {w' : World} {v : Value} {bs : List Nat} {e : TypeId} {es : List (List AV)} (hnv : vals.length = T.slots.length) (hrep : Rep C.P S' w' bs v (.own e es)) : TmpOK C.P S w' (pushT T (.own e es)) (vals ++ [v]) v (.sl T.slots.length T.ep 0 es.length) := by
  refine ⟨by simp [pushT], hrep.one, fun e2 es2 v2 sz2 q1 q2 q3 => ?_⟩
  have q1 : (T.slots ++ [_])[T.slots.length]? = _ := q1
  rw [getElem?_snoc, if_neg (Nat.lt_irrefl _), if_pos rfl] at q1
  rw [getElem?_snoc, hnv, if_neg (Nat.lt_irrefl _), if_pos rfl] at q2
  injection q1 with q1; injection q1 with _ q1; injection q1 with q1 q4
  injection q2 with q2
  subst q1; subst q2; subst q4
  obtain ⟨us1, sz1, bss1, -, hi1, hsz1, hown1, -⟩ := hrep.own_inv
  refine ⟨by omega, ?_⟩
  rcases hown1.2 with ⟨hnil, h0'⟩ | ⟨g, cap', cur, hcap, -, -, p1, p2, -⟩
  · exact ⟨none, 0, 0, hnil, by omega, Nat.le_refl _, by unfold maxLen; omega, .inl ⟨rfl, by rw [hnil, h0']⟩⟩
  · exact ⟨_, _, _, hcap, by omega, p1, p2, .inl ⟨rfl, hcap⟩⟩
theorem op_app_nil {t e : TypeId} {y s : Operand} {z : Value} {sz b : Nat} {rows : List (List AV)} {sv : AV} (ho : o.op = .call { callee := .builtin .append, args := #[y, s], argTypes := #[t, t] }) (hy : ev y = .v (.slice none 0 0)) (hs : ev s = sv) (hsrc : Src T sv rows)
    (ht : C.P.underlying t = some (.slice e)) (hz : zeroIs C.P e z sz b) (h0 : 0 < sz) (hsz : ∀ x ∈ rows, x.length = sz) (hb : rows.length * b ≤ 140737488355328) (hb0 : 0 < b) {n : Nat} (hn : rows.length = n) :
    OpJ C o ev T (.sl T.slots.length T.ep 0 n) (pushT T (.own e rows)) := by
  intro a w S vals bss hm h K hK Q
  have h1 := h y (by simp [ho, Op.operands, Call.operands])
  have h2 := h s (by simp [ho, Op.operands, Call.operands])
  rw [hy] at h1
  rw [hs] at h2
  obtain ⟨A, c, us, sz', e1, h3, h4, h5, h6, h7⟩ := src_cells hm hsrc h2
  have hmax : rows.length ≤ maxLen := by
    have := Nat.le_mul_of_pos_right rows.length hb0
    unfold maxLen
    omega
  obtain ⟨v', w', bs', hrun, hrep', hnd, hsub, hk⟩ := run_app (P := C.P) (S := S) (w := w) (ty := o.type) ht hz h0 (rep_nil hz.size) (by simp) (by simp) hsz (A := A) (c := c) h6 h7 (by simpa using hb) (by simpa using hmax)
  rw [List.nil_append] at hrep'
  have hk' : Kept (fun _ => True) w w' := hk.mono fun _ _ _ => by simp
  obtain ⟨hm', hf⟩ := hm.push hk' hrep' hnd fun q hq => (hsub q hq).resolve_left (by simp)
  unfold Oper.wp execOp
  simp only [ho, resolve, invoke, builtin, Sem.run_bind, Sem.run_pure, Result.andThen_ok, List.map_toArray, List.map_cons, List.map_nil, h1.v, e1, hrun]
  subst hn
  exact hK v' _ _ _ _ hm' hf (push_sl hm.nv hrep')
theorem madeCells_rl {P : Program} {S : Nat → Prop} {w : World} {t : TypeId} {z : Value} {sz b : Nat} (hz : zeroIs P t z sz b) (n : Nat) : RL (Rep P S w []) (madeCells z.cells (n * sz)).toList (List.replicate n (z.cells.toList.map .v)).flatten := by
  have hl : (List.replicate n (z.cells.toList.map AV.v)).flatten.length = n * sz := by
    rw [flat_len (sz := sz)]
    · simp
    · intro e he; rw [List.eq_of_mem_replicate he]; simp [hz.2.1]
  refine ⟨by rw [hl]; simp [size_madeCells], fun i u x hu hx => ?_⟩
  have hi : i < n * sz := by rw [← hl]; exact (List.getElem?_eq_some_iff.1 hx).1
  have hsp : 0 < sz := by rcases Nat.eq_zero_or_pos sz with h | h <;> simp_all
  have hq : i / sz < n := by rw [Nat.div_lt_iff_lt_mul hsp]; exact hi
  have hmod := Nat.mod_lt i hsp
  have hx2 := flat_at (sz := sz) (es := List.replicate n (z.cells.toList.map AV.v)) (fun e he => by rw [List.eq_of_mem_replicate he]; simp [hz.2.1]) (i := i / sz) (row := z.cells.toList.map .v) (by simp [hq]) (j := i % sz) (x := .v z.cells[i % sz]!) (by
    rw [List.getElem?_map]
    have : i % sz < z.cells.toList.length := by simp [hz.2.1]; exact hmod
    rw [List.getElem?_eq_getElem this]
    simp only [Option.map_some]
    rw [getElem!_pos z.cells _ (by rw [hz.2.1]; exact hmod)]
    simp)
  rw [Nat.div_add_mod'] at hx2
  rw [hx2] at hx
  injection hx with hx
  subst hx
  simp only [madeCells, Array.toList_map, List.getElem?_map] at hu
  have hlt2 : i < (Array.range (n * sz)).toList.length := by simpa using hi
  rw [List.getElem?_eq_getElem hlt2] at hu
  simp only [Option.map_some, Option.some.injEq] at hu
  have e1 : (Array.range (n * sz)).toList[i] = i := by simp
  rw [e1, hz.2.1] at hu
  rw [← hu]
  refine .v ?_
  rw [getElem!_pos z.cells _ (by rw [hz.2.1]; exact hmod)]
  exact Array.all_eq_true_iff_forall_mem.1 hz.2.2 _ (Array.getElem_mem _)
theorem op_make {t e : TypeId} {y q : Operand} {z : Value} {sz b : Nat} {kl kc : IntKind} {n c : Nat} {nl nc : Int} (ho : o.op = .makeSlice t y q) (hy : ev y = .v (.int kl nl)) (hq : ev q = .v (.int kc nc)) (hnl : nl = (n : Int)) (hnc : nc = (c : Int)) (hle : n ≤ c) (ht : C.P.underlying t = some (.slice e)) (hz : zeroIs C.P e z sz b) (hb : b * c ≤ 140737488355328) (hb0 : 0 < b)
    {row : List AV} (hrow : z.cells.toList.map .v = row) : OpJ C o ev T (.sl T.slots.length T.ep 0 n) (pushT T (.own e (List.replicate n row))) := by
  intro a w S vals bss hm h K hK Q
  have h1 := h y (by simp [ho, Op.operands])
  have h2 := h q (by simp [ho, Op.operands])
  rw [hy] at h1
  rw [hq] at h2
  subst hnl; subst hnc; subst hrow
  have hcm : c ≤ maxLen := by
    have := Nat.le_mul_of_pos_left c hb0
    unfold maxLen
    omega
  obtain ⟨hzi, hz2, hz3⟩ := id hz
  obtain ⟨i, hii, hz0, hz1, hz4⟩ := info_parts hzi
  have hbc : (i.bytes : Int) * (c : Int) ≤ 281474976710656 := by
    rw [hz4, ← Int.natCast_mul]; omega
  have hrun := run_make (P := C.P) w t e i z ht hii hz0 kl kc (n : Int) (c : Int) (by omega) (by omega) hbc (by unfold maxLen at hcm; omega)
  simp only [Int.toNat_natCast, hz1] at hrun
  have hrl := madeCells_rl (P := C.P) (S := S) (w := w) hz c
  have hg : (w.alloc (.cells (madeCells z.cells (c * sz)) e)).heap[w.heap.size]? = some (.cells (madeCells z.cells (c * sz)) e (0, 0)) := heap_alloc_new w _
  have hown : (w.alloc (.cells (madeCells z.cells (c * sz)) e)).ownsRow 0 e sz (.slice (some ⟨w.heap.size, 0, none⟩) n c) n ((madeCells z.cells (c * sz)).toList.take (n * sz)) :=
    ⟨by rw [List.length_take, Array.length_toList, size_madeCells]; exact Nat.min_eq_left (Nat.mul_le_mul_right _ hle), .inr ⟨_, c, _, rfl, Nat.zero_le _, hg, hle, hcm, size_madeCells _ _, rfl⟩⟩
  have hk : Kept (fun _ => True) w (w.alloc (.cells (madeCells z.cells (c * sz)) e)) := (Kept.refl _ _).alloc _
  have hrowl : ∀ x ∈ List.replicate n (z.cells.toList.map AV.v), x.length = sz := fun x hx => by rw [List.eq_of_mem_replicate hx]; simp [hz.2.1]
  have hpart : RL (Rep C.P S w []) ((madeCells z.cells (c * sz)).toList.take (n * sz)) (List.replicate n (z.cells.toList.map AV.v)).flatten := by
    have := hrl.part 0 (n * sz)
    rw [List.drop_zero, List.drop_zero] at this
    have e1 : (List.replicate c (z.cells.toList.map AV.v)).flatten.take (n * sz) = (List.replicate n (z.cells.toList.map AV.v)).flatten := by
      have := flat_cut (sz := sz) (es := List.replicate c (z.cells.toList.map AV.v)) (fun x hx => by rw [List.eq_of_mem_replicate hx]; simp [hz.2.1]) 0 n
      rw [Nat.zero_mul, List.drop_zero, List.drop_zero] at this
      rw [← this, List.take_replicate, Nat.min_eq_left hle]
    rw [e1] at this
    exact this
  have hrep : Rep C.P S (w.alloc (.cells (madeCells z.cells (c * sz)) e)) [w.heap.size] (.slice (some ⟨w.heap.size, 0, none⟩) n c) (.own e (List.replicate n (z.cells.toList.map AV.v))) := by
    have := Rep.own (P := C.P) (S := S) (es := List.replicate n (z.cells.toList.map AV.v)) (bss := List.replicate (n * sz) []) hz.size hrowl (by rw [List.length_replicate]; exact hown) hpart.1 (by rw [hpart.1, flat_len hrowl]; simp) fun i u x bs hu hx hb => by
      have : bs = [] := by
        rw [List.getElem?_replicate] at hb
        split at hb <;> simp_all
      subst this
      exact (hpart.2 i u x hu hx).kept hk (fun _ _ _ => trivial) (by simp)
    rw [List.flatten_replicate_nil] at this
    exact this
  obtain ⟨hm', hf⟩ := hm.push hk hrep (by simp) (by simp)
  unfold Oper.wp execOp
  simp only [ho, h1.v, h2.v, Sem.run_bind, hrun, Result.andThen_ok, Sem.run_pure]
  have := push_sl (C := C) (S := S) (T := T) hm.nv hrep
  rw [List.length_replicate] at this
  exact hK _ _ _ _ _ hm' hf this
def bndIs (ev : Operand → AV) (q : Option Operand) (d n : Nat) : Prop := match q with | none => n = d | some y => ∃ kk, ev y = .v (.int kk (n : Int))
theorem run_bounds {P : Program} {S : Nat → Prop} {w : World} {vals : List Value} {a : Act} {lo hi : Option Operand} {l hh len cap : Nat} (b : Bool) (hl : bndIs ev lo 0 l) (hhi : bndIs ev hi len hh) (h1 : l ≤ hh) (h2 : hh ≤ cap) (ho : ∀ y, lo = some y ∨ hi = some y → TmpOK P S w T vals (a.eval y) (ev y)) (w' : World) :
    (Instr.sliceBounds b len cap (lo.map a.eval) (hi.map a.eval) none).run P w' = .ok (l, hh, cap) w' := by
  have key : ∀ (q : Option Operand) (d n : Nat), bndIs ev q d n → (∀ y, q = some y → TmpOK P S w T vals (a.eval y) (ev y)) → q.map a.eval = none ∧ n = d ∨ ∃ kk, q.map a.eval = some (.int kk (n : Int)) := by
    intro q d n hq hy
    cases q with
    | none => exact .inl ⟨rfl, hq⟩
    | some y =>
      obtain ⟨kk, hk⟩ := hq
      have := hy y rfl
      rw [hk] at this
      exact .inr ⟨kk, by rw [Option.map_some, this.v]⟩
  have hll : (l : Int) ≤ (hh : Int) := by omega
  have hhc : (hh : Int) ≤ (cap : Int) := by omega
  rcases key lo 0 l hl (fun y hy => ho y (.inl hy)) with ⟨e1, e2⟩ | ⟨k1, e1⟩ <;> rcases key hi len hh hhi (fun y hy => ho y (.inr hy)) with ⟨e3, e4⟩ | ⟨k2, e3⟩ <;> rw [e1, e3] <;> (try subst e2) <;> (try subst e4) <;> simp [Instr.sliceBounds, Instr.sliceBound, asIntOf, h1, h2, Nat.not_lt.2 h1, Nat.not_lt.2 h2]
theorem run_slice_ {P : Program} {t e : TypeId} {sz l hh len cap : Nat} {A : Option Addr} {lo hi mx : Option Value} {m : Nat} (ht : P.underlying t = some (.slice e)) (hs : sizeIs P e sz) (w : World) (hb : (Instr.sliceBounds true len cap lo hi mx).run P w = .ok (l, hh, m) w) :
    (Instr.sliceAt t (.slice A len cap) lo hi mx).run P w = .ok (.slice (if m = l then A else A.map (·.add (l * sz))) (hh - l) (m - l)) w := by
  have hee := elem_eq ht
  rw [run_sliceAt_slice w t _ _ _ _ (by rw [hee]; exact ht)]
  simp [Instr.slice, run_underlying ht, hb, run_sizeOf hs]
theorem op_slice_ro {t e : TypeId} {y : Operand} {lo hi : Option Operand} {es : List (List AV)} {sz : Nat} (l hh : Nat) (ho : o.op = .slice t y lo hi none) (hy : ev y = .ro es ∨ ev y = .rof es) (hl : bndIs ev lo 0 l) (hhi : bndIs ev hi es.length hh) (h1 : l ≤ hh) (h2 : hh ≤ es.length) (ht : C.P.underlying t = some (.slice e)) (hs : sizeIs C.P e sz) (hsz : ∀ x ∈ es, x.length = sz)
    {es' : List (List AV)} (he : (es.drop l).take (hh - l) = es') : OpP C o ev T (.ro es') := by
  intro a w S vals bss hm h
  have h3 := h y (by simp [ho, Op.operands])
  have h4 : Rep C.P S w [] (a.eval y) (.ro es) := by
    rcases hy with hy | hy
    · rw [hy] at h3; exact h3
    · rw [hy] at h3; exact Rep.ro_of_rof h3
  obtain ⟨-, A, c, sz', us, e1, g1, g2, g3, g4, g5, g6⟩ := h4.ro_inv
  have hb := fun w' => run_bounds (P := C.P) (T := T) (a := a) (ev := ev) (lo := lo) (hi := hi) true hl hhi h1 (Nat.le_trans h2 g1) (fun y hy => h y (by rcases hy with rfl | rfl <;> simp [ho, Op.operands])) w'
  refine ⟨_, fun w' => by simp only [execOp, ho, e1, Sem.run_bind, Option.map_none, run_slice_ ht hs w' (hb w'), Result.andThen_ok, Sem.run_pure]; rfl, ?_⟩
  subst he
  have hlen : ((es.drop l).take (hh - l)).length = hh - l := by rw [List.length_take, List.length_drop]; omega
  have hfl := flat_len hsz
  have hle : hh * sz ≤ es.length * sz := Nat.mul_le_mul_right _ h2
  have hsub : (hh - l) * sz = hh * sz - l * sz := Nat.sub_mul _ _ _
  have hllh : l * sz ≤ hh * sz := Nat.mul_le_mul_right _ h1
  suffices hfin : Rep C.P S w [] (.slice (if c = l then A else A.map (·.add (l * sz))) ((es.drop l).take (hh - l)).length (c - l)) (.ro ((es.drop l).take (hh - l))) by rw [hlen] at hfin; exact hfin
  refine Rep.ro (c := c - l) (sz := sz) (us := (us.drop (l * sz)).take ((hh - l) * sz)) (by rw [hlen]; omega) (by omega) (fun x hx => hsz x (List.mem_of_mem_drop (List.mem_of_mem_take hx))) (fun hn => ?_) ?_ ?_
  · have hpos : 0 < us.length := by rw [List.length_take, List.length_drop] at hn; omega
    obtain ⟨g, oo, rfl, hS, hc⟩ := g4 hpos
    have hlh : l < hh := by
      rcases Nat.lt_or_ge l hh with h | h
      · exact h
      · have : hh - l = 0 := by omega
        rw [this] at hn; simp at hn
    refine ⟨g, oo + l * sz, ?_, hS, fun j u hu => ?_⟩
    · rw [if_neg (by omega), Option.map_some, add_off]
    · rw [List.getElem?_take] at hu
      split at hu
      · rw [List.getElem?_drop] at hu
        rw [Nat.add_assoc]; exact hc _ u hu
      · cases hu
  · rw [flat_cut hsz, List.length_take, List.length_take, List.length_drop, List.length_drop, g5]
  · intro i u x hu hx
    rw [flat_cut hsz, List.getElem?_take] at hx
    rw [List.getElem?_take] at hu
    split at hu
    · rename_i hlt
      rw [if_pos hlt, List.getElem?_drop] at hx
      rw [List.getElem?_drop] at hu
      exact g6 _ u x hu hx
    · cases hu
end
end Go.Proofs.Ytmihcabjoodogaa
namespace Go.Proofs.Ytmihcabjoodogaa
open Go.RowKit
set_option linter.unusedSimpArgs false
set_option linter.unusedVariables false
section
variable {C : Cx} {Q : Exit → Sta → Prop} {σ : Sta}
def StI (C : Cx) (σ : Sta) (a : Act) (w : World) (S : Nat → Prop) (vals : List Value) (bss : List (List Nat)) : Prop :=
  a.defers = [] ∧ a.tmps.size = σ.n ∧ Mem C σ.T S vals bss w ∧ ∀ t, t < σ.n → TmpOK C.P S w σ.T vals (a.tmps.getD t undef) (σ.env t)
def AQ (C : Cx) (ops : Array Oper) (K : Sta → Prop) (l : List Oper) (σ : Sta) : Prop :=
  ∀ a w S vals bss, StI C σ a w S vals bss → wpQuiet C.P ops (fun w' => Kept (fun _ => True) w w') (fun a' => ∃ σ', StI C σ' a' w S vals bss ∧ K σ') l a
theorem Mem.grow {T : Sl} {S : Nat → Prop} {vals : List Value} {bss : List (List Nat)} {w w' : World} (hm : Mem C T S vals bss w) (hk : Kept (fun _ => True) w w') : Mem C T S vals bss w' :=
  ⟨hm.kept.then hk (fun _ _ _ => trivial), hm.s0, hm.sub, fun k h => Nat.lt_of_lt_of_le (hm.lt k h) hk.size, hm.nv, hm.nb, fun r k x v bs h1 h2 h3 => (hm.rep r k x v bs h1 h2 h3).kept hk (fun _ _ _ => trivial) (fun _ _ => trivial), hm.nodup, hm.disj, hm.apart, hm.mine, hm.root, hm.ver, hm.pos⟩
theorem StI.grow {a : Act} {w w' : World} {S : Nat → Prop} {vals : List Value} {bss : List (List Nat)} (h : StI C σ a w S vals bss) (hk : Kept (fun _ => True) w w') : StI C σ a w' S vals bss :=
  ⟨h.1, h.2.1, h.2.2.1.grow hk, fun t ht => TmpOK.follows (Follows.kept hk (fun _ _ _ => trivial) fun _ h => h) (h.2.2.2 t ht)⟩
theorem AW.quiet {i : Nat} {l : List Oper} (hm : C.P.follows .mixedOrders = true) (hB : Region.lexB .any l.toArray = true) (h : AQ C l.toArray (Q .normal) l σ) : AW C (.region i l.toArray true) Q σ := by
  intro a w ⟨hd, hn, S, vals, bss, hme, he⟩
  have hk : Kept (fun _ => True) w { w with drawn := w.drawn + 1 } := (Kept.refl _ _).drew
  refine wp_region_quiet (C := fun w' => Kept (fun _ => True) w w') hm hB hk ?_
  have := h a w S vals bss ⟨hd, hn, hme, he⟩
  simp only
  have key : ∀ (ops : Array Oper) (l : List Oper) (a : Act) (P1 P2 : Act → Prop), (∀ a, P1 a → P2 a) → wpQuiet C.P ops (fun w' => Kept (fun _ => True) w w') P1 l a → wpQuiet C.P ops (fun w' => Kept (fun _ => True) w w') P2 l a := by
    intro ops l
    induction l with
    | nil => intro a P1 P2 h h'; exact h _ h'
    | cons o l ih =>
      intro a P1 P2 h h'
      unfold wpQuiet at h' ⊢
      split
      · rename_i hw; rw [if_pos hw] at h'; exact Oper.quiet_mono (fun a => ih a P1 P2 h) h'
      · rename_i hw; rw [if_neg hw] at h'; exact ih _ P1 P2 h h'
  refine key _ _ _ _ _ ?_ this
  rintro a' ⟨σ', hs, hq⟩ w' hk'
  obtain ⟨h1, h2, h3, h4⟩ := hs.grow hk'
  exact ⟨σ', ⟨h1, h2, S, vals, bss, h3, h4⟩, hq⟩
theorem AQ.nil {ops : Array Oper} {K : Sta → Prop} (h : K σ) : AQ C ops K [] σ := fun a w S vals bss hs => ⟨σ, hs, h⟩
theorem StI.put {a : Act} {w : World} {S : Nat → Prop} {vals : List Value} {bss : List (List Nat)} (h : StI C σ a w S vals bss) {d : Option Tmp} {v : Value} {x : AV} (hx : TmpOK C.P S w σ.T vals v x) : StI C ⟨putE σ.env d x, σ.T, σ.n⟩ (a.put d v) w S vals bss := by
  obtain ⟨hd, hn, hm, he⟩ := h
  refine ⟨by rw [Act.defers_put, hd], by rw [Act.size_put, hn], hm, fun t ht => ?_⟩
  rw [Act.getD_put]
  cases d with
  | none => rw [if_neg (by simp)]; exact he t ht
  | some d =>
    by_cases h : d = t
    · subst h
      rw [if_pos ⟨rfl, by rw [hn]; exact ht⟩]
      simpa [putE, upd] using hx
    · rw [if_neg (fun h' => h (by simpa using h'.1))]
      have : (putE σ.env (some d) x) t = σ.env t := by simp [putE, upd]; intro h'; exact absurd h'.symm h
      show TmpOK C.P S w σ.T vals (a.tmps.getD t undef) (putE σ.env (some d) x t)
      rw [this]
      exact he t ht
/-- A call that gives one value, in every world in which nothing has turned. -/
def OpQ (C : Cx) (o : Oper) (ev : Operand → AV) (T : Sl) (x : AV) : Prop :=
  ∀ (a : Act) (w : World) (S : Nat → Prop) (vals : List Value) (bss : List (List Nat)), Mem C T S vals bss w → (∀ y ∈ o.op.operands, TmpOK C.P S w T vals (a.eval y) (ev y)) →
    ∃ v, (∀ w', Kept (fun _ => True) w w' → o.quietAt C.P a (fun w'' => Kept (fun _ => True) w w'') w' v) ∧ TmpOK C.P S w T vals v x
theorem OpR.q {o : Oper} {ev : Operand → AV} {T : Sl} {x : AV} (h : OpR C o ev T x) : OpQ C o ev T x := fun a w S vals bss hm ho => by
  obtain ⟨v, hr, hx⟩ := h a w S vals bss hm ho
  refine ⟨v, fun w' hk => ?_, hx⟩
  unfold Oper.quietAt
  rw [hr w' hk]
  exact ⟨rfl, rfl⟩
theorem OpP.q {o : Oper} {ev : Operand → AV} {T : Sl} {x : AV} (h : OpP C o ev T x) : OpQ C o ev T x := h.r.q
theorem AQ.op {ops : Array Oper} {K : Sta → Prop} {o : Oper} {l : List Oper} {x : AV} (hg : o.guard = none) (ho : opsOk o σ.n = true) (hj : OpQ C o (evA σ.env) σ.T x) (h : AQ C ops K l ⟨putE σ.env o.dst x, σ.T, σ.n⟩) : AQ C ops K (o :: l) σ := by
  intro a w S vals bss hs
  obtain ⟨v, h1, h2⟩ := hj a w S vals bss hs.2.2.1 (St.ops hs.2.1 hs.2.2.2 ho)
  unfold wpQuiet
  rw [if_pos (by simp [Region.wanted, hg])]
  exact ⟨v, h1, h _ _ _ _ _ (hs.put h2)⟩
theorem StI.st {a : Act} {w : World} {S : Nat → Prop} {vals : List Value} {bss : List (List Nat)} (h : StI C σ a w S vals bss) : St C σ a w := ⟨h.1, h.2.1, S, vals, bss, h.2.2.1, h.2.2.2⟩
theorem AQ.no {ops : Array Oper} {K : Sta → Prop} {o o' : Oper} {l : List Oper} {g d : Nat} {b : Bool} (hg : o.guard = some (g, !b)) (ho' : ops[g]? = some o') (hd : o'.dst = some d) (hdn : d < σ.n) (hv : σ.env d = .v (.bool b))
    (h : AQ C ops K l ⟨putE σ.env o.dst .any, σ.T, σ.n⟩) : AQ C ops K (o :: l) σ := by
  intro a w S vals bss hs
  have hb := hs.st.bool (c := .tmp d) (t := b) (by simpa [noneBig] using hdn) rfl hv
  have hw : ¬ Region.wanted o (yielded ops a.tmps) = true := by
    have hlt : d < a.tmps.size := by rw [hs.2.1]; exact hdn
    simp [Act.eval, hlt] at hb
    simp [Region.wanted, hg, yielded, ho', hd, hlt, hb]
  unfold wpQuiet
  rw [if_neg hw]
  exact h _ _ _ _ _ (hs.put TmpOK.any_)
def Gh (C : Cx) (σ σ' : Sta) : Prop := ∀ a w, St C σ a w → St C σ' a w
theorem AW.gh {c : Code} {σ' : Sta} (hg : Gh C σ σ') (h : AW C c Q σ') : AW C c Q σ := fun a w hs => h a w (hg a w hs)
theorem AWL.gh {ops : Array Oper} {l : List Oper} {σ' : Sta} (hg : Gh C σ σ') (h : AWL C ops Q l σ') : AWL C ops Q l σ := fun a w hs => h a w (hg a w hs)
/-- A nil slice is taken for a slice of one's own. -/
theorem Gh.nil {e : TypeId} {sz : Nat} (t : Nat) (ht : t < σ.n) (hv : σ.env t = .v (.slice none 0 0)) (hi : sizeIs C.P e sz) : Gh C σ ⟨upd σ.env t (.sl σ.T.slots.length σ.T.ep 0 0), pushT σ.T (.own e []), σ.n⟩ := by
  intro a w ⟨hd, hn, S, vals, bss, hm, he⟩
  obtain ⟨hm', hf⟩ := hm.push (Kept.refl _ _) (rep_nil (S := S) (w := w) hi) (by simp) (by simp)
  refine ⟨hd, hn, S, _, _, hm', fun q hq => ?_⟩
  show TmpOK _ _ _ _ _ _ (upd σ.env t _ q)
  unfold upd
  by_cases h : q = t
  · subst h
    rw [if_pos rfl]
    have h1 := he q hq
    rw [hv] at h1
    rw [h1.v]
    exact push_sl (S := S) hm.nv (rep_nil (S := S) (w := w) hi)
  · rw [if_neg h]
    exact TmpOK.follows hf (he q hq)
/-- The last slots are given up. -/
theorem Gh.drop (m : Nat) : Gh C σ ⟨σ.env, ⟨σ.T.slots.take m, σ.T.ep⟩, σ.n⟩ := by
  intro a w ⟨hd, hn, S, vals, bss, hm, he⟩
  have tk : ∀ {α : Type} (l : List α) (r : Nat) (x : α), (l.take m)[r]? = some x → r < m ∧ l[r]? = some x := fun l r x h => by
    rw [List.getElem?_take] at h
    split at h
    · exact ⟨by assumption, h⟩
    · cases h
  refine ⟨hd, hn, S, vals.take m, bss.take m, ⟨hm.kept, hm.s0, hm.sub, hm.lt, by simp [hm.nv], by simp [hm.nb], fun r k x v bs q1 q2 q3 => hm.rep r k x v bs (tk _ _ _ q1).2 (tk _ _ _ q2).2 (tk _ _ _ q3).2, fun r bs q => hm.nodup r bs (tk _ _ _ q).2, fun r r' b1 b2 hne q1 q2 => hm.disj r r' b1 b2 hne (tk _ _ _ q1).2 (tk _ _ _ q2).2, fun r bs q => hm.apart r bs (tk _ _ _ q).2, fun r bs q => hm.mine r bs (tk _ _ _ q).2, fun r x hlt q => ?_, fun r k x q => hm.ver r k x (tk _ _ _ q).2, hm.pos⟩, fun t ht => ?_⟩
  · obtain ⟨h1, h2⟩ := tk _ _ _ q
    rw [List.getElem?_take, if_pos h1]
    exact hm.root r x hlt h2
  · refine TmpOK.follows ?_ (he t ht)
    intro u x hx
    cases x with
    | sl r k off len => exact ⟨hx.1, hx.2.1, fun e es v sz q1 q2 q3 => hx.2.2 e es v sz (tk _ _ _ q1).2 (tk _ _ _ q2).2 q3⟩
    | ptr r k i j => exact ⟨hx.1, hx.2.1, fun e es v sz q1 q2 q3 => hx.2.2 e es v sz (tk _ _ _ q1).2 (tk _ _ _ q2).2 q3⟩
    | mp r k => exact ⟨hx.1, hx.2.1, fun b ks v q1 q2 => hx.2.2 b ks v (tk _ _ _ q1).2 (tk _ _ _ q2).2⟩
    | _ => exact hx
/-- Cells that own nothing. -/
def flatA : AV → Bool
  | .own _ _ => false
  | .om _ _ => false
  | .nm _ _ _ => false
  | .byt _ _ _ => false
  | _ => true
theorem Rep.flat {P : Program} {S : Nat → Prop} {w : World} {bs : List Nat} {u : Value} {x : AV} (h : Rep P S w bs u x) (hx : flatA x = true) : bs = [] := by
  cases h <;> first | rfl | cases hx
theorem rep_freeze {P : Program} {S : Nat → Prop} {w : World} {bs : List Nat} {v : Value} {e : TypeId} {es : List (List AV)} (h : Rep P S w bs v (.own e es)) (hx : ∀ r ∈ es, ∀ c ∈ r, flatA c = true) :
    ∃ (us : List Value) (A : Option Addr) (c sz : Nat), v = .slice A es.length c ∧ es.length ≤ c ∧ c ≤ maxLen ∧ (∀ x ∈ es, x.length = sz) ∧ sizeIs P e sz ∧ us.length = es.flatten.length ∧ (∀ (i : Nat) (u : Value) (x : AV), us[i]? = some u → es.flatten[i]? = some x → Rep P S w [] u x) ∧ (0 < us.length → ∃ g, A = some ⟨g, 0, none⟩ ∧ g ∈ bs ∧ ∀ j u, us[j]? = some u → w.cell? ⟨g, j, none⟩ = some u) := by
  obtain ⟨us, sz, bss, rfl, hi, hsz, hown, hul, hbl, hc⟩ := h.own_inv
  have hcc : ∀ (i : Nat) (u : Value) (x : AV), us[i]? = some u → es.flatten[i]? = some x → Rep P S w [] u x := fun i u x hu hx' => by
    have hlt : i < bss.length := by rw [hbl]; exact (List.getElem?_eq_some_iff.1 hu).1
    have hr := hc i u x _ hu hx' (List.getElem?_eq_getElem hlt)
    obtain ⟨r, hr1, hr2⟩ := List.mem_flatten.1 (List.mem_of_getElem? hx')
    have := hr.flat (hx r hr1 x hr2)
    rw [this] at hr
    exact hr
  rcases hown.2 with ⟨rfl, h0⟩ | ⟨g, cap, cur, rfl, -, hg, p1, p2, -⟩
  · refine ⟨us, none, 0, sz, by rw [h0], by omega, by unfold maxLen; omega, hsz, hi, hul, hcc, fun hn => ?_⟩
    have : es = [] := List.eq_nil_of_length_eq_zero h0
    rw [hul, this] at hn; simp at hn
  · refine ⟨us, _, cap, sz, rfl, p1, p2, hsz, hi, hul, hcc, fun _ => ⟨g, rfl, by simp [Value.ownBlock], fun j u hu => ?_⟩⟩
    have := hown.cells (g := g) rfl j u hu
    rw [add_off, Nat.zero_add] at this
    exact this
/-- A slot is frozen: from now on it is only read. -/
theorem Gh.freeze {e : TypeId} {es : List (List AV)} {r k len : Nat} (t : Nat) (ht : t < σ.n) (hv : σ.env t = .sl r k 0 len) (hT : σ.T.slots[r]? = some (k, .own e es)) (hx : ∀ r ∈ es, ∀ c ∈ r, flatA c = true) {es' : List (List AV)} (he' : es.take len = es') :
    Gh C σ ⟨upd σ.env t (.ro es'), ⟨σ.T.slots.set r (k, .any), σ.T.ep⟩, σ.n⟩ := by
  intro a w ⟨hd, hn, S, vals, bss, hm, he⟩
  obtain ⟨v, bs, hv2, hb, hrep⟩ := hm.slot hT
  obtain ⟨us, A, c, sz, hve, p1, p2, hsz, hi, hul, hcc, hcell⟩ := rep_freeze hrep hx
  have hrl : r < σ.T.slots.length := (List.getElem?_eq_some_iff.1 hT).1
  have hSS : ∀ q, S q → S q ∨ q ∈ bs := fun q h => .inl h
  have hf : Follows C.P S w σ.T vals (fun q => S q ∨ q ∈ bs) w ⟨σ.T.slots.set r (k, .any), σ.T.ep⟩ vals := by
    intro u x hx
    have key2 : ∀ (q kq : Nat) (x : AV), (σ.T.slots.set r (k, .any))[q]? = some (kq, x) → x ≠ .any → σ.T.slots[q]? = some (kq, x) := by
      intro q kq x q1 hne
      rw [getElem?_set_ _ _ _ _ hrl] at q1
      split at q1
      · injection q1 with q1; injection q1 with _ q1; exact absurd q1.symm hne
      · exact q1
    cases x with
    | sl r k off len => exact ⟨hx.1, hx.2.1, fun e es v sz q1 q2 q3 => hx.2.2 e es v sz (key2 _ _ _ q1 (by simp)) q2 q3⟩
    | ptr r k i j => exact ⟨hx.1, hx.2.1, fun e es v sz q1 q2 q3 => hx.2.2 e es v sz (key2 _ _ _ q1 (by simp)) q2 q3⟩
    | mp r k => exact ⟨hx.1, hx.2.1, fun b ks v q1 q2 => hx.2.2 b ks v (key2 _ _ _ q1 (by simp)) q2⟩
    | _ => exact RefOK.kept (T := σ.T) (vals := vals) hx (Kept.refl (fun _ => True) w) (fun _ _ _ => trivial) hSS
  have hbt : ∀ (q : Nat) (b1 : List Nat), (bss.set r [])[q]? = some b1 → (b1 = [] ∧ q = r) ∨ (q ≠ r ∧ bss[q]? = some b1) := by
    intro q b1 h
    rw [getElem?_set_ _ _ _ _ (by rw [hm.nb]; exact hrl)] at h
    split at h
    · rename_i e1; injection h with h; exact .inl ⟨h.symm, e1.symm⟩
    · rename_i e1; exact .inr ⟨fun e => e1 e.symm, h⟩
  refine ⟨hd, hn, fun q => S q ∨ q ∈ bs, vals, bss.set r [], ⟨hm.kept, fun q h => .inl (hm.s0 q h), fun q h => ?_, fun q h => ?_, by simp [hm.nv], by simp [hm.nb], ?_, ?_, ?_, ?_, ?_, ?_, ?_, hm.pos⟩, fun q hq => ?_⟩
  · rcases h with h | h
    · exact hm.sub q h
    · rcases hm.mine r bs hb q h with h | h
      · exact .inr (.inl h)
      · exact .inr (.inr h)
  · rcases h with h | h
    · exact hm.lt q h
    · exact hm.blt hb q h
  · intro q kq y u b1 q1 q2 q3
    rw [getElem?_set_ _ _ _ _ hrl] at q1
    rcases hbt q b1 q3 with ⟨rfl, rfl⟩ | ⟨hne, q4⟩
    · rw [if_pos rfl] at q1
      injection q1 with q1; injection q1 with _ q1
      subst q1
      rw [hv2] at q2
      injection q2 with q2
      subst q2
      exact .any hrep.one
    · rw [if_neg (fun e => hne e.symm)] at q1
      exact (hm.rep q kq y u b1 q1 q2 q4).mono fun _ _ h => .inl h
  · intro q b1 q1
    rcases hbt q b1 q1 with ⟨rfl, rfl⟩ | ⟨hne, q4⟩
    · simp
    · exact hm.nodup q b1 q4
  · intro q q' b1 b2 hne q1 q2 b hb1 hb2
    rcases hbt q b1 q1 with ⟨rfl, rfl⟩ | ⟨hne1, q4⟩
    · simp at hb1
    · rcases hbt q' b2 q2 with ⟨rfl, rfl⟩ | ⟨hne2, q5⟩
      · simp at hb2
      · exact hm.disj q q' b1 b2 hne q4 q5 b hb1 hb2
  · intro q b1 q1 b hb1 hS
    rcases hbt q b1 q1 with ⟨rfl, rfl⟩ | ⟨hne1, q4⟩
    · simp at hb1
    · rcases hS with hS | hS
      · exact hm.apart q b1 q4 b hb1 hS
      · exact hm.disj q r b1 bs hne1 q4 hb b hb1 hS
  · intro q b1 q1 b hb1
    rcases hbt q b1 q1 with ⟨rfl, rfl⟩ | ⟨hne1, q4⟩
    · simp at hb1
    · exact hm.mine q b1 q4 b hb1
  · intro q y hlt q1
    rw [getElem?_set_ _ _ _ _ hrl] at q1
    split at q1
    · rename_i e1
      injection q1 with q1; injection q1 with q1 _
      subst e1
      exact hm.root r _ hlt (by rw [hT, q1])
    · exact hm.root q y hlt q1
  · intro q kq y q1
    rw [getElem?_set_ _ _ _ _ hrl] at q1
    split at q1
    · injection q1 with q1; injection q1 with q1 _
      rw [← q1]; exact hm.ver r k _ hT
    · exact hm.ver q kq y q1
  · show TmpOK _ _ _ _ _ _ (upd σ.env t _ q)
    unfold upd
    by_cases h : q = t
    · subst h
      rw [if_pos rfl]
      have h1 := he q hq
      rw [hv] at h1
      obtain ⟨hol, A0, nn, cap, hve2, g3, g4, g5, g6⟩ := h1.2.2 e es v sz hT hv2 hi
      rw [hve] at hve2
      injection hve2 with s1 s2 s3
      subst s1; subst s3
      have hu : a.tmps.getD q undef = .slice A len c := by
        rcases g6 with ⟨-, h8⟩ | ⟨A', h8, _⟩
        · exact h8
        · omega
      rw [hu]
      subst he'
      have hll : (es.take len).length = len := by rw [List.length_take]; omega
      have hfc := flat_cut hsz 0 len
      rw [Nat.zero_mul, List.drop_zero, List.drop_zero] at hfc
      suffices hh : Rep C.P (fun q => S q ∨ q ∈ bs) w [] (.slice A (es.take len).length c) (.ro (es.take len)) by rw [hll] at hh; exact hh
      refine Rep.ro (sz := sz) (us := us.take (len * sz)) (by rw [hll]; omega) p2 (fun x hx => hsz x (List.mem_of_mem_take hx)) (fun hn => ?_) ?_ ?_
      · obtain ⟨g, r1, r2, r3⟩ := hcell (by rw [List.length_take] at hn; omega)
        refine ⟨g, 0, r1, .inr r2, fun j u hu => ?_⟩
        rw [List.getElem?_take] at hu
        split at hu
        · rw [Nat.zero_add]; exact r3 j u hu
        · cases hu
      · rw [hfc, List.length_take, List.length_take, hul]
      · intro i u x hu hx
        rw [hfc, List.getElem?_take] at hx
        rw [List.getElem?_take] at hu
        split at hu
        · rename_i hlt
          rw [if_pos hlt] at hx
          exact (hcc i u x hu hx).mono fun _ _ h => .inl h
        · cases hu
    · rw [if_neg h]
      exact TmpOK.follows hf (he q hq)
end
end Go.Proofs.Ytmihcabjoodogaa
namespace Go.Proofs.Ytmihcabjoodogaa
open Go.RowKit
set_option linter.unusedSimpArgs false
set_option linter.unusedVariables false
def retV (us : List Value) : Value := match us with | [u] => u | us => .tuple us.toArray
def insT (ins : List AV) : Sl := ⟨ins.map fun x => (0, x), 1⟩
/-- Blocks, list by list, of which no two share one. -/
structure Own2 (bss : List (List Nat)) : Prop where
  nodup : ∀ (r : Nat) (bs : List Nat), bss[r]? = some bs → bs.Nodup
  disj : ∀ (r r' : Nat) (bs bs' : List Nat), r ≠ r' → bss[r]? = some bs → bss[r']? = some bs' → ∀ b ∈ bs, b ∉ bs'
def InL (bss : List (List Nat)) (b : Nat) : Prop := ∃ (r : Nat) (bs : List Nat), bss[r]? = some bs ∧ b ∈ bs
/-- What may be read for good behind a call. -/
def After (S : Nat → Prop) (w w' : World) (bss own : List (List Nat)) : Nat → Prop := fun k => S k ∨ ((w.heap.size ≤ k ∨ InL bss k) ∧ k < w'.heap.size ∧ ¬ InL own k)
structure Came (P : Program) (ins xs : List AV) (w : World) (S : Nat → Prop) (vals : List Value) (bss : List (List Nat)) (vs : List Value) : Prop where
  lt : ∀ k, S k → k < w.heap.size
  nv : vals.length = ins.length
  nb : bss.length = ins.length
  rep : ∀ (r : Nat) (x : AV) (v : Value) (bs : List Nat), ins[r]? = some x → vals[r]? = some v → bss[r]? = some bs → Rep P S w bs v x
  own : Own2 bss
  apart : ∀ b, InL bss b → ¬ S b
  args : RL (AggOK P S w (insT ins) vals) vs xs
structure Went (P : Program) (w : World) (S : Nat → Prop) (vals : List Value) (bss : List (List Nat)) (w' : World) (us : List Value) (ys outs : List AV) (bsr bss' : List (List Nat)) : Prop where
  kept : Kept (fun k => ¬ InL bss k) w w'
  nu : us.length = ys.length
  nr : bsr.length = ys.length
  no : outs.length = vals.length
  nb : bss'.length = vals.length
  res : ∀ (i : Nat) (u : Value) (y : AV) (bs : List Nat), us[i]? = some u → ys[i]? = some y → bsr[i]? = some bs → Rep P (After S w w' bss (bsr ++ bss')) w' bs u y ∨ (bs = [] ∧ AggOK P (After S w w' bss (bsr ++ bss')) w' (insT outs) vals u y)
  rep : ∀ (r : Nat) (x : AV) (v : Value) (bs : List Nat), outs[r]? = some x → vals[r]? = some v → bss'[r]? = some bs → Rep P (After S w w' bss (bsr ++ bss')) w' bs v x
  own : Own2 (bsr ++ bss')
  mine : ∀ b, InL (bsr ++ bss') b → w.heap.size ≤ b ∨ InL bss b
def Spec (P : Program) (f : FuncId) (ins xs : List AV) (Q : List AV → List AV → Prop) : Prop :=
  ∀ (w : World) (S : Nat → Prop) (vals : List Value) (bss : List (List Nat)) (vs : List Value), Came P ins xs w S vals bss vs →
    Calls P f vs.toArray w fun e w' => ∃ us ys outs bsr bss', e = .returned (retV us) ∧ Went P w S vals bss w' us ys outs bsr bss' ∧ Q ys outs
theorem Spec.mono {P : Program} {f : FuncId} {ins xs : List AV} {Q Q' : List AV → List AV → Prop} (h : Spec P f ins xs Q) (hq : ∀ ys outs, Q ys outs → Q' ys outs) : Spec P f ins xs Q' := fun w S vals bss vs hc =>
  (h w S vals bss vs hc).mono fun e w' ⟨us, ys, outs, bsr, bss', h1, h2, h3⟩ => ⟨us, ys, outs, bsr, bss', h1, h2, hq _ _ h3⟩
/-- What a result variable holds. -/
def ResIs (P : Program) (σ : Sta) : ResultVar → AV → Prop
  | .tmp t, z => t < σ.n ∧ σ.env t = z
  | .cell t ty, z => t < σ.n ∧ ∃ r k i j e es row, σ.env t = .ptr r k i j ∧ σ.T.slots[r]? = some (k, .own e es) ∧ es[i]? = some row ∧
      ((aggB P ty = some true ∧ ∃ n, sizeIs P ty n ∧ j + n ≤ row.length ∧ ((row.drop j).take n).map ldc = (match z with | .agg cs => cs | _ => [.any]) ∧ (∃ cs, z = .agg cs)) ∨ (aggB P ty = some false ∧ ∃ x, row[j]? = some x ∧ ldc x = z))
def clo1 (n0 : Nat) : AV → Bool
  | .sl r k _ _ => r < n0 && k == 0
  | .ptr r k _ _ => r < n0 && k == 0
  | .mp r k => r < n0 && k == 0
  | .tup _ => false
  | _ => true
def cloA (n0 : Nat) : AV → Bool
  | .agg cs => cs.all (clo1 n0)
  | x => clo1 n0 x
inductive Gives (T : Sl) (n0 : Nat) : List Nat → List AV → List AV → Prop
  | nil : Gives T n0 [] [] []
  | keep {used zs ys z} (hc : cloA n0 z = true) (h : Gives T n0 used zs ys) : Gives T n0 used (z :: zs) (z :: ys)
  | own {used zs ys r k e es len} (hT : T.slots[r]? = some (k, .own e es)) (hl : len = es.length) (hr : n0 ≤ r) (hu : r ∉ used) (h : Gives T n0 used zs ys) : Gives T n0 (r :: used) (.sl r k 0 len :: zs) (.own e es :: ys)
/-- What is to be shown at the end of a body. -/
def RQ (P : Program) (fn : Func) (n0 : Nat) (Q : List AV → List AV → Prop) : Exit → Sta → Prop
  | .normal, σ | .ret, σ => ∃ zs ys used outs, RL (ResIs P σ) fn.results.toList zs ∧ Gives σ.T n0 used zs ys ∧ outs.length = n0 ∧ (∀ (r : Nat) (x : AV), outs[r]? = some x → σ.T.slots[r]? = some (0, x)) ∧ Q ys outs
  | _, _ => False
def resOf (tmps : Array Value) : ResultVar → Sem Value
  | .tmp t => pure (tmps.getD t undef)
  | .cell b t => do loadVar t (← asAddr (tmps.getD b undef))
theorem mapM_run {P : Program} {w : World} {tmps : Array Value} {r : ResultVar} {rs : List ResultVar} {v : Value} {us : List Value} (h : (resOf tmps r).run P w = .ok v w) (h' : (rs.mapM (resOf tmps)).run P w = .ok us w) : ((r :: rs).mapM (resOf tmps)).run P w = .ok (v :: us) w := by
  simp only [List.mapM_cons, Sem.run_bind, h, h', Result.andThen_ok, Sem.run_pure]
theorem res_run {C : Cx} {σ : Sta} {a : Act} {w : World} {S : Nat → Prop} {vals : List Value} {bss : List (List Nat)} (hs : StI C σ a w S vals bss) : ∀ (rs : List ResultVar) (zs : List AV), RL (ResIs C.P σ) rs zs →
    ∃ us, (rs.mapM (resOf a.tmps)).run C.P w = .ok us w ∧ RL (TmpOK C.P S w σ.T vals) us zs
  | [], zs, h => by
    have : zs = [] := List.eq_nil_of_length_eq_zero h.1.symm
    subst this
    exact ⟨[], by simp, RL.nil⟩
  | r :: rs, [], h => by have := h.1; simp at this
  | r :: rs, z :: zs, h => by
    obtain ⟨r', rs', e, hr, h'⟩ := h.cons_inv
    injection e with e1 e2
    subst e1; subst e2
    obtain ⟨us, h1, h2⟩ := res_run hs rs zs h'
    obtain ⟨hd, hn, hm, he⟩ := hs
    cases r with
    | tmp t =>
      obtain ⟨q1, q2⟩ := hr
      have := he t q1
      rw [q2] at this
      exact ⟨_ :: us, mapM_run rfl h1, RL.cons this h2⟩
    | cell t ty =>
      obtain ⟨q1, rr, k, i, j, e, es, row, q2, q3, q4, q5⟩ := hr
      have hp := he t q1
      rw [q2] at hp
      obtain ⟨g, oo, e1, hc⟩ := ptr_cells hm q3 hp q4
      rcases q5 with ⟨g1, n, g2, g3, g4, cs, rfl⟩ | ⟨g1, x, g2, g3⟩
      · simp only at g4
        have hget : ∀ q, q < n → ∃ x c, row[j + q]? = some x ∧ w.cell? ⟨g, oo + q, none⟩ = some c ∧ Rep C.P S w [] c (ldc x) := fun q hq => by
          have hx := List.getElem?_eq_getElem (l := row) (i := j + q) (by omega)
          obtain ⟨c, bs, h3, h4⟩ := hc q _ hx
          exact ⟨_, c, hx, h3, h4.ldc⟩
        obtain ⟨cells, hul, hus⟩ : ∃ us : List Value, us.length = n ∧ ∀ q u, us[q]? = some u → w.cell? ⟨g, oo + q, none⟩ = some u := by
          refine ⟨(List.range n).map fun q => (w.cell? ⟨g, oo + q, none⟩).getD undef, by simp, fun q u hu => ?_⟩
          have hq : q < n := by have := (List.getElem?_eq_some_iff.1 hu).1; simpa using this
          obtain ⟨x, c, _, h3, _⟩ := hget q hq
          simp [hq, h3] at hu
          rw [h3, hu]
        have hl := run_loadVar (P := C.P) g1 g2 ⟨g, oo, none⟩ cells hul w fun q u hu => by rw [add_off]; exact hus q u hu
        refine ⟨.agg cells.toArray :: us, mapM_run (by simp only [resOf, Sem.run_bind, e1, asAddr, Sem.run_pure, Result.andThen_ok, hl]) h1, RL.cons ⟨_, rfl, ?_⟩ h2⟩
        rw [← g4]
        refine ⟨by simp [hul]; omega, fun q u x hu hx => ?_⟩
        simp only at hu
        rw [List.getElem?_map, List.getElem?_take] at hx
        have hq : q < n := by have := (List.getElem?_eq_some_iff.1 hu).1; omega
        rw [if_pos hq, List.getElem?_drop] at hx
        obtain ⟨x', c, p2, p3, p4⟩ := hget q hq
        rw [p2] at hx
        simp at hx
        subst hx
        have := hus q u hu
        rw [p3] at this
        injection this with this
        subst this
        exact Rep.ref p4
      · obtain ⟨c, bs, p3, p4⟩ := hc 0 x (by simpa using g2)
        have hl := run_loadOne (P := C.P) g1 ⟨g, oo, none⟩ c w (by simpa using p3)
        refine ⟨c :: us, mapM_run (by simp only [resOf, Sem.run_bind, e1, asAddr, Sem.run_pure, Result.andThen_ok, hl]) h1, RL.cons ?_ h2⟩
        rw [← g3]
        exact (Rep.ref p4.ldc).tmp
theorem own_val {C : Cx} {T : Sl} {S : Nat → Prop} {vals : List Value} {bss : List (List Nat)} {w : World} (hm : Mem C T S vals bss w) {u v : Value} {r k len : Nat} {e : TypeId} {es : List (List AV)} (hT : T.slots[r]? = some (k, .own e es)) (hv : vals[r]? = some v) (hl : len = es.length) (h : TmpOK C.P S w T vals u (.sl r k 0 len)) : u = v := by
  obtain ⟨v2, bs, hv2, hbb, hrep⟩ := hm.slot hT
  rw [hv] at hv2
  injection hv2 with hv2
  subst hv2
  obtain ⟨us0, sz0, bss0, -, hi0, hsz0, hown, -⟩ := hrep.own_inv
  obtain ⟨hol, A0, nn, cap, hve, g3, g4, g5, g6⟩ := h.2.2 e es v sz0 hT hv hi0
  rcases g6 with ⟨-, h8⟩ | ⟨A', h8, _⟩
  · rw [h8, hve, hl]
    rcases hown.2 with ⟨hnil, h0'⟩ | ⟨g, cap', cur, hcap, -⟩
    · rw [hve] at hnil; injection hnil with q1 q2 q3; rw [q2, h0']
    · rw [hve] at hcap; injection hcap with q1 q2 q3; rw [q2]
  · omega
/-- The blocks that the results take along. -/
theorem gives_out {C : Cx} {T : Sl} {S : Nat → Prop} {vals : List Value} {bss : List (List Nat)} {w : World} (hm : Mem C T S vals bss w) {n0 : Nat} : ∀ {used : List Nat} {zs ys : List AV}, Gives T n0 used zs ys → ∀ {us : List Value}, RL (TmpOK C.P S w T vals) us zs →
    ∃ rs : List (Option Nat), rs.length = ys.length ∧ us.length = ys.length ∧ (∀ (i r : Nat), rs[i]? = some (some r) → r ∈ used ∧ n0 ≤ r ∧ r < T.slots.length) ∧ (∀ (i j r : Nat), rs[i]? = some (some r) → rs[j]? = some (some r) → i = j) ∧
      (∀ (i : Nat) (u : Value) (y : AV), us[i]? = some u → ys[i]? = some y → (∃ (r : Nat) (bs : List Nat), rs[i]? = some (some r) ∧ bss[r]? = some bs ∧ Rep C.P S w bs u y) ∨ (rs[i]? = some none ∧ cloA n0 y = true ∧ TmpOK C.P S w T vals u y))
  | _, _, _, .nil, us, h => by
    have : us = [] := List.eq_nil_of_length_eq_zero h.1
    subst this
    exact ⟨[], rfl, rfl, by simp, by simp, by simp⟩
  | _, _, _, .keep hc hg, us, h => by
    obtain ⟨u, us', rfl, hu, h'⟩ := h.cons_inv
    obtain ⟨rs, h1, h2, h3, h4, h5⟩ := gives_out hm hg h'
    refine ⟨none :: rs, by simp [h1], by simp [h2], fun i r hi => ?_, fun i j r hi hj => ?_, fun i u y hu' hy => ?_⟩
    · cases i with
      | zero => simp at hi
      | succ i => exact h3 i r (by simpa using hi)
    · cases i <;> cases j <;> simp at hi hj
      · rename_i i j; rw [h4 i j r hi hj]
    · cases i with
      | zero => simp at hu' hy; subst hu'; subst hy; exact .inr ⟨rfl, hc, hu⟩
      | succ i => simpa using h5 i u y (by simpa using hu') (by simpa using hy)
  | _, _, _, .own (r := r) hT hl hr hu hg, us, h => by
    obtain ⟨u, us', rfl, hu', h'⟩ := h.cons_inv
    obtain ⟨rs, h1, h2, h3, h4, h5⟩ := gives_out hm hg h'
    obtain ⟨v, bs, hv, hb, hrep⟩ := hm.slot hT
    have := own_val hm hT hv hl hu'
    subst this
    refine ⟨some r :: rs, by simp [h1], by simp [h2], fun i q hi => ?_, fun i j q hi hj => ?_, fun i u y hu' hy => ?_⟩
    · cases i with
      | zero => simp at hi; subst hi; exact ⟨by simp, hr, (List.getElem?_eq_some_iff.1 hT).1⟩
      | succ i => obtain ⟨q1, q2⟩ := h3 i q (by simpa using hi); exact ⟨by simp [q1], q2⟩
    · cases i <;> cases j <;> simp at hi hj
      · rfl
      · subst hi; exact absurd (h3 _ _ hj).1 hu
      · subst hj; exact absurd (h3 _ _ hi).1 hu
      · rename_i i j; rw [h4 i j q hi hj]
    · cases i with
      | zero => simp at hu' hy; subst hu'; subst hy; exact .inl ⟨r, bs, rfl, hb, hrep⟩
      | succ i => simpa using h5 i u y (by simpa using hu') (by simpa using hy)
end Go.Proofs.Ytmihcabjoodogaa
namespace Go.Proofs.Ytmihcabjoodogaa
open Go.RowKit
set_option linter.unusedSimpArgs false
set_option linter.unusedVariables false
theorem inL_flatten {bss : List (List Nat)} {b : Nat} : InL bss b ↔ b ∈ bss.flatten := by
  constructor
  · rintro ⟨r, bs, h1, h2⟩; exact List.mem_flatten.2 ⟨bs, List.mem_of_getElem? h1, h2⟩
  · intro h
    obtain ⟨bs, h1, h2⟩ := List.mem_flatten.1 h
    obtain ⟨r, hr, rfl⟩ := List.getElem_of_mem h1
    exact ⟨r, _, List.getElem?_eq_getElem hr, h2⟩
theorem AggOK.clo {P : Program} {S S' : Nat → Prop} {w : World} {T : Sl} {vals : List Value} {outs : List AV} {u : Value} {y : AV} (h : TmpOK P S w T vals u y) (hc : cloA outs.length y = true) (hS : ∀ k, S k → S' k) (ho : ∀ (r : Nat) (x : AV), outs[r]? = some x → T.slots[r]? = some (0, x)) : AggOK P S' w (insT outs) vals u y := by
  have one : ∀ u y, clo1 outs.length y = true → RefOK P S w T vals u y → RefOK P S' w (insT outs) vals u y := by
    intro u y hc h
    have sl : ∀ (r k : Nat) (x : AV), (insT outs).slots[r]? = some (k, x) → T.slots[r]? = some (k, x) := fun r k x h => by
      simp only [insT, List.getElem?_map] at h
      cases hq : outs[r]? with
      | none => rw [hq] at h; cases h
      | some x' =>
        rw [hq] at h
        simp only [Option.map_some, Option.some.injEq] at h
        injection h with h1 h2
        subst h1; subst h2
        exact ho r _ hq
    cases y with
    | sl r k off len =>
      simp only [clo1, Bool.and_eq_true, beq_iff_eq, decide_eq_true_eq] at hc
      exact ⟨by simp [insT, hc.2], h.2.1, fun e es v sz q1 q2 q3 => h.2.2 e es v sz (sl _ _ _ q1) q2 q3⟩
    | ptr r k i j =>
      simp only [clo1, Bool.and_eq_true, beq_iff_eq, decide_eq_true_eq] at hc
      exact ⟨by simp [insT, hc.2], h.2.1, fun e es v sz q1 q2 q3 => h.2.2 e es v sz (sl _ _ _ q1) q2 q3⟩
    | mp r k =>
      simp only [clo1, Bool.and_eq_true, beq_iff_eq, decide_eq_true_eq] at hc
      exact ⟨by simp [insT, hc.2], h.2.1, fun b ks v q1 q2 => h.2.2 b ks v (sl _ _ _ q1) q2⟩
    | _ => exact RefOK.kept (T := insT outs) (vals := vals) h (Kept.refl (fun _ => True) w) (fun _ _ _ => trivial) hS
  cases y with
  | any => trivial
  | agg cs =>
    obtain ⟨us, e, r⟩ := h
    refine ⟨us, e, r.1, fun i u x hu hx => one u x ?_ (r.2 i u x hu hx)⟩
    simp only [cloA, List.all_eq_true] at hc
    exact hc x (List.mem_of_getElem? hx)
  | tup cs => cases hc
  | _ => simp only [TmpOK, AggOK] at h ⊢; exact one _ _ hc h
theorem retV_run {P : Program} {fn : Func} {tmps : Array Value} {us : List Value} {w : World} (h : (fn.results.toList.mapM (resOf tmps)).run P w = .ok us w) : (results fn tmps).run P w = .ok (retV us) w := by
  have h2 : (fn.results.mapM (resOf tmps)).run P w = .ok us.toArray w := by
    rw [Array.mapM_eq_mapM_toList]
    simp [h]
  have e : results fn tmps = (do let vs ← fn.results.mapM (resOf tmps); pure (if h : vs.size = 1 then vs[0] else .tuple vs) : Sem Value) := by
    unfold results
    congr 2
    try (funext x; cases x <;> rfl)
  rw [e]
  simp only [Sem.run_bind, h2, Result.andThen_ok, Sem.run_pure]
  congr 1
  match us with
  | [] => rfl
  | [u] => rfl
  | u :: v :: us => simp [retV]
theorem Spec.body {P : Program} {f : FuncId} {fn : Func} {c : Code} {ins xs : List AV} {Q : List AV → List AV → Prop} {n n0 : Nat} (hf : P.funcs[f]? = some fn) (hb : fn.body = some c) (hnn : fn.ntmps = n) (hn : xs.length ≤ n) (h0 : ins.length = n0)
    (h : ∀ S0 own0 v0 w0, AW ⟨P, S0, own0, v0, w0⟩ c (RQ P fn n0 Q) ⟨fun t => xs.getD t .any, insT ins, n⟩) : Spec P f ins xs Q := by
  subst hnn
  subst h0
  intro w S vals bss vs came
  refine calls_of_wp hf hb ?_
  have hvl : vs.length = xs.length := came.args.1
  have hsz : (vs.toArray ++ Array.replicate (fn.ntmps - vs.toArray.size) undef).size = fn.ntmps := by simp; omega
  have hmem : Mem ⟨P, S, bss.flatten, vals, w⟩ (insT ins) S vals bss w := by
    refine ⟨Kept.refl _ _, fun _ h => h, fun _ h => .inl h, came.lt, by simp [insT, came.nv], by simp [insT, came.nb], fun r k x v bs q1 q2 q3 => ?_, came.own.nodup, came.own.disj, fun r bs q b hb' => came.apart b ⟨r, bs, q, hb'⟩, fun r bs q b hb' => .inl (inL_flatten.1 ⟨r, bs, q, hb'⟩), fun _ _ _ _ => rfl, fun r k x q => ?_, by simp [insT]⟩
    · simp only [insT, List.getElem?_map] at q1
      cases hq : ins[r]? with
      | none => rw [hq] at q1; cases q1
      | some x' =>
        rw [hq] at q1
        simp only [Option.map_some, Option.some.injEq] at q1
        injection q1 with _ q1
        subst q1
        exact came.rep r _ v bs hq q2 q3
    · simp only [insT, List.getElem?_map] at q
      cases hq : ins[r]? with
      | none => rw [hq] at q; cases q
      | some x' =>
        rw [hq] at q
        simp only [Option.map_some, Option.some.injEq] at q
        injection q with q _
        subst q
        simp [insT]
  refine wp_mono (h S bss.flatten vals w { tmps := vs.toArray ++ Array.replicate (fn.ntmps - vs.toArray.size) undef, defers := [] } w ⟨rfl, hsz, S, vals, bss, hmem, fun t ht => ?_⟩) ?_
  · by_cases hlt : t < xs.length
    · have hx := List.getElem?_eq_getElem hlt
      obtain ⟨u, hu, hr⟩ := came.args.at_ hx
      have e1 : (vs.toArray ++ Array.replicate (fn.ntmps - vs.toArray.size) undef).getD t undef = u := by
        have hu' : vs.toArray[t]? = some u := by simpa using hu
        rw [Array.getD_eq_getD_getElem?, Array.getElem?_append_left (by simp; omega), hu']
        rfl
      show TmpOK P S w (insT ins) vals ((vs.toArray ++ Array.replicate (fn.ntmps - vs.toArray.size) undef).getD t undef) (xs.getD t .any)
      rw [e1, List.getD_eq_getElem?_getD, hx]
      exact hr.tmp
    · show TmpOK P S w (insT ins) vals ((vs.toArray ++ Array.replicate (fn.ntmps - vs.toArray.size) undef).getD t undef) (xs.getD t .any)
      rw [List.getD_eq_getElem?_getD, List.getElem?_eq_none (by omega)]
      trivial
  · intro e a w' hq
    obtain ⟨σ, ⟨hd, hn', Sf, valsf, bssf, hm, he⟩, hrq⟩ := hq
    have main : (∃ zs ys used outs, RL (ResIs P σ) fn.results.toList zs ∧ Gives σ.T ins.length used zs ys ∧ outs.length = ins.length ∧ (∀ (r : Nat) (x : AV), outs[r]? = some x → σ.T.slots[r]? = some (0, x)) ∧ Q ys outs) → a.defers = [] ∧ ∃ v, (results fn a.tmps).run P w' = .ok v w' ∧ ∃ us ys outs bsr bss', Ending.returned v = .returned (retV us) ∧ Went P w S vals bss w' us ys outs bsr bss' ∧ Q ys outs := by
      rintro ⟨zs, ys, used, outs, h1, h2, h3, h4, h5⟩
      obtain ⟨us, hr1, hr2⟩ := res_run (C := ⟨P, S, bss.flatten, vals, w⟩) ⟨hd, hn', hm, he⟩ _ _ h1
      obtain ⟨rs, g1, g2, g3, g4, g5⟩ := gives_out hm h2 hr2
      have hsl : ∀ r, r < ins.length → ∃ x, outs[r]? = some x ∧ σ.T.slots[r]? = some (0, x) := fun r hr => by
        have := List.getElem?_eq_getElem (l := outs) (i := r) (by omega)
        exact ⟨_, this, h4 r _ this⟩
      have hlen : ins.length ≤ σ.T.slots.length := by
        rcases Nat.eq_zero_or_pos ins.length with h0 | h0
        · omega
        · obtain ⟨x, _, h⟩ := hsl (ins.length - 1) (by omega)
          have := (List.getElem?_eq_some_iff.1 h).1
          omega
      have hval : ∀ r, r < ins.length → valsf[r]? = vals[r]? := fun r hr => by
        obtain ⟨x, _, h⟩ := hsl r hr
        exact hm.root r x (by show r < vals.length; rw [came.nv]; exact hr) h
      refine ⟨hd, retV us, retV_run hr1, us, ys, outs, rs.map (fun q => match q with | some r => bssf.getD r [] | none => []), bssf.take ins.length, rfl, ?_, h5⟩
      generalize hL : (rs.map (fun q => match q with | some r => bssf.getD r [] | none => [])) = bsr
      have hbl : bsr.length = rs.length := by rw [← hL]; simp
      have hkey : ∀ (i : Nat) (bs : List Nat), (bsr ++ bssf.take ins.length)[i]? = some bs → bs = [] ∨ ∃ q, bssf[q]? = some bs ∧ ((i < rs.length ∧ rs[i]? = some (some q)) ∨ (rs.length ≤ i ∧ q = i - rs.length ∧ q < ins.length)) := fun i bs h => by
        by_cases hi : i < rs.length
        · rw [List.getElem?_append_left (by omega), ← hL, List.getElem?_map, List.getElem?_eq_getElem hi] at h
          simp only [Option.map_some, Option.some.injEq] at h
          cases hq : rs[i] with
          | none => rw [hq] at h; exact .inl h.symm
          | some r =>
            rw [hq] at h
            right
            have hr : r < bssf.length := by rw [hm.nb]; exact (g3 i r (by rw [List.getElem?_eq_getElem hi, hq])).2.2
            refine ⟨r, ?_, .inl ⟨hi, by rw [List.getElem?_eq_getElem hi, hq]⟩⟩
            have h : bssf.getD r [] = bs := h
            rw [← h, List.getD_eq_getElem?_getD, List.getElem?_eq_getElem hr]; rfl
        · rw [List.getElem?_append_right (by omega), hbl, List.getElem?_take] at h
          split at h
          · exact .inr ⟨_, h, .inr ⟨by omega, rfl, by assumption⟩⟩
          · cases h
      have hinj : ∀ i j q, ((i < rs.length ∧ rs[i]? = some (some q)) ∨ (rs.length ≤ i ∧ q = i - rs.length ∧ q < ins.length)) → ((j < rs.length ∧ rs[j]? = some (some q)) ∨ (rs.length ≤ j ∧ q = j - rs.length ∧ q < ins.length)) → i = j := by
        rintro i j q (⟨a1, a2⟩ | ⟨a1, a2, a3⟩) (⟨b1, b2⟩ | ⟨b1, b2, b3⟩)
        · exact g4 i j q a2 b2
        · have := (g3 i q a2).2.1; omega
        · have := (g3 j q b2).2.1; omega
        · omega
      have hown : Own2 (bsr ++ bssf.take ins.length) := by
        refine ⟨fun r bs h => ?_, fun r r' b1 b2 hne q1 q2 b hb1 hb2 => ?_⟩
        · rcases hkey r bs h with rfl | ⟨q, h1, _⟩
          · simp
          · exact hm.nodup q bs h1
        · rcases hkey r b1 q1 with rfl | ⟨p1, h1, h2⟩
          · simp at hb1
          · rcases hkey r' b2 q2 with rfl | ⟨p2, h3, h4⟩
            · simp at hb2
            · by_cases hpp : p1 = p2
              · subst hpp; exact hne (hinj r r' p1 h2 h4)
              · exact hm.disj p1 p2 b1 b2 hpp h1 h3 b hb1 hb2
      have hin : ∀ b, InL (bsr ++ bssf.take ins.length) b → InL bssf b := by
        rintro b ⟨i, bs, h, hb'⟩
        rcases hkey i bs h with rfl | ⟨q, h1, _⟩
        · simp at hb'
        · exact ⟨q, bs, h1, hb'⟩
      have hS : ∀ k, Sf k → After S w w' bss (bsr ++ bssf.take ins.length) k := fun k hk => by
        rcases hm.sub k hk with h | h | h
        · exact .inl h
        · refine .inr ⟨.inr (inL_flatten.2 h), hm.lt k hk, fun hi => ?_⟩
          obtain ⟨q, bs, h1, h2⟩ := hin k hi
          exact hm.apart q bs h1 k h2 hk
        · refine .inr ⟨.inl h, hm.lt k hk, fun hi => ?_⟩
          obtain ⟨q, bs, h1, h2⟩ := hin k hi
          exact hm.apart q bs h1 k h2 hk
      refine ⟨hm.kept.mono fun k _ h hk => h (inL_flatten.2 hk), by omega, by omega, by rw [h3, came.nv], by rw [List.length_take, hm.nb, came.nv]; omega, fun i u y bs q1 q2 q3 => ?_, fun r x v bs q1 q2 q3 => ?_, hown, fun b hb' => ?_⟩
      · rw [← hL, List.getElem?_map] at q3
        rcases g5 i u y q1 q2 with ⟨r, b0, p1, p2, p3⟩ | ⟨p1, p2, p3⟩
        · left
          rw [p1] at q3
          simp only [Option.map_some, Option.some.injEq] at q3
          have q3 : bssf.getD r [] = bs := q3
          rw [List.getD_eq_getElem?_getD, p2] at q3
          simp only [Option.getD_some] at q3
          rw [← q3]
          exact p3.mono fun k _ => hS k
        · right
          rw [p1] at q3
          simp only [Option.map_some, Option.some.injEq] at q3
          refine ⟨q3.symm, ?_⟩
          have := AggOK.clo (S' := After S w w' bss (bsr ++ bssf.take ins.length)) (outs := outs) p3 (by rw [h3]; exact p2) hS h4
          have hvv : ∀ (r : Nat) (x : AV), (insT outs).slots[r]? = some (0, x) → valsf[r]? = vals[r]? := fun r x h => by
            have hr : r < outs.length := by have := (List.getElem?_eq_some_iff.1 h).1; simpa [insT] using this
            exact hval r (by omega)
          have conv : ∀ u y, RefOK P (After S w w' bss (bsr ++ bssf.take ins.length)) w' (insT outs) valsf u y → RefOK P (After S w w' bss (bsr ++ bssf.take ins.length)) w' (insT outs) vals u y := by
            intro u y h
            have z : ∀ (r k : Nat) (x : AV), (insT outs).slots[r]? = some (k, x) → valsf[r]? = vals[r]? := fun r k x h => by
              have hr : r < outs.length := by have := (List.getElem?_eq_some_iff.1 h).1; simpa [insT] using this
              exact hval r (by omega)
            cases y with
            | sl r k off len => exact ⟨h.1, h.2.1, fun e es v sz q1 q2 q3 => h.2.2 e es v sz q1 (by rw [z _ _ _ q1]; exact q2) q3⟩
            | ptr r k i j => exact ⟨h.1, h.2.1, fun e es v sz q1 q2 q3 => h.2.2 e es v sz q1 (by rw [z _ _ _ q1]; exact q2) q3⟩
            | mp r k => exact ⟨h.1, h.2.1, fun b ks v q1 q2 => h.2.2 b ks v q1 (by rw [z _ _ _ q1]; exact q2)⟩
            | _ => exact h
          exact AggOK.follows conv this
      · have hr : r < ins.length := by rw [← h3]; exact (List.getElem?_eq_some_iff.1 q1).1
        rw [List.getElem?_take, if_pos hr] at q3
        exact (hm.rep r 0 x v bs (h4 r x q1) (by rw [hval r hr]; exact q2) q3).mono fun k _ => hS k
      · obtain ⟨q, bs, h1, h2⟩ := hin b hb'
        rcases hm.mine q bs h1 b h2 with h | h
        · exact .inr (inL_flatten.2 h)
        · exact .inl h
    cases e with
    | normal => exact main hrq
    | ret => exact main hrq
    | exit i => exact hrq.elim
    | goto l => exact hrq.elim
    | panic c => exact hrq.elim
    | outgrown => exact hrq.elim
end Go.Proofs.Ytmihcabjoodogaa
namespace Go.Proofs.Ytmihcabjoodogaa
open Go.RowKit
set_option linter.unusedSimpArgs false
set_option linter.unusedVariables false
/-- A contract that names its results. -/
def Fn (P : Program) (f : FuncId) (ins xs ys outs : List AV) : Prop := Spec P f ins xs fun a b => a = ys ∧ b = outs
def nref1 : AV → Bool
  | .sl _ _ _ _ => false
  | .ptr _ _ _ _ => false
  | .mp _ _ => false
  | .tup _ => false
  | _ => true
def nrefA : AV → Bool
  | .agg cs => cs.all nref1
  | x => nref1 x
theorem RefOK.nref {P : Program} {S S' : Nat → Prop} {w : World} {T T' : Sl} {vals vals' : List Value} {u : Value} {y : AV} (h : RefOK P S w T vals u y) (hn : nref1 y = true) (hS : ∀ k, S k → S' k) : RefOK P S' w T' vals' u y := by
  cases y with
  | sl => cases hn
  | ptr => cases hn
  | mp => cases hn
  | _ => exact RefOK.kept (T := T') (vals := vals') h (Kept.refl (fun _ => True) w) (fun _ _ _ => trivial) hS
theorem AggOK.nref {P : Program} {S S' : Nat → Prop} {w : World} {T T' : Sl} {vals vals' : List Value} {u : Value} {y : AV} (h : AggOK P S w T vals u y) (hn : nrefA y = true) (hS : ∀ k, S k → S' k) : AggOK P S' w T' vals' u y := by
  cases y with
  | any => trivial
  | agg cs =>
    obtain ⟨us, e, r⟩ := h
    simp only [nrefA, List.all_eq_true] at hn
    exact ⟨us, e, r.1, fun i u x hu hx => (r.2 i u x hu hx).nref (hn x (List.mem_of_getElem? hx)) hS⟩
  | _ => simp only [AggOK] at h ⊢; exact RefOK.nref h hn hS
/-- A datum whose reading does not lean on what may be read for good. -/
def Solid (P : Program) (x : AV) : Prop := ∀ (S S' : Nat → Prop) (w : World) (bs : List Nat) (u : Value), Rep P S w bs u x → Rep P S' w bs u x
theorem Solid.v {P : Program} (x : Value) : Solid P (.v x) := fun S S' w bs u h => by obtain ⟨rfl, rfl, h2⟩ := h.v_inv; exact .v h2
theorem Solid.any {P : Program} : Solid P .any := fun S S' w bs u h => by obtain ⟨rfl, h2⟩ := h.any_inv; exact .any h2
theorem Solid.sln {P : Program} (n : Nat) : Solid P (.sln n) := fun S S' w bs u h => by obtain ⟨rfl, A, c, rfl, h1, h2⟩ := h.sln_inv; exact .sln h1 h2
theorem Solid.own {P : Program} {e : TypeId} {es : List (List AV)} (hx : ∀ r ∈ es, ∀ c ∈ r, Solid P c) : Solid P (.own e es) := fun S S' w bs u h => by
  obtain ⟨us, sz, bss, rfl, hi, hsz, hown, hul, hbl, hc⟩ := h.own_inv
  refine .own hi hsz hown hul hbl fun i u x b h1 h2 h3 => ?_
  obtain ⟨r, hr1, hr2⟩ := List.mem_flatten.1 (List.mem_of_getElem? h2)
  exact hx r hr1 x hr2 _ _ _ _ _ (hc i u x b h1 h2 h3)
def SolidA (P : Program) : AV → Prop
  | .agg cs => ∀ c ∈ cs, Solid P c
  | x => Solid P x
section
variable {C : Cx} {T : Sl} {S : Nat → Prop} {vals : List Value} {bss : List (List Nat)} {w : World}
theorem Mem.push2 (hm : Mem C T S vals bss w) {x : AV} {v : Value} {bs : List Nat} (hr : Rep C.P S w bs v x) (hn : bs.Nodup) (hb : ∀ b ∈ bs, ¬ InL bss b ∧ ¬ S b ∧ (b ∈ C.own0 ∨ C.w0.heap.size ≤ b)) :
    Mem C (pushT T x) S (vals ++ [v]) (bss ++ [bs]) w ∧ Follows C.P S w T vals S w (pushT T x) (vals ++ [v]) := by
  have cases3 : ∀ (r : Nat) (b1 : List Nat), (bss ++ [bs])[r]? = some b1 → bss[r]? = some b1 ∨ (r = T.slots.length ∧ b1 = bs) := fun r b1 h => by
    rw [getElem?_snoc] at h
    split at h
    · exact .inl h
    · split at h
      · rename_i e; injection h with h; exact .inr ⟨by rw [e, hm.nb], h.symm⟩
      · cases h
  constructor
  · refine ⟨hm.kept, hm.s0, hm.sub, hm.lt, by simp [pushT, hm.nv], by simp [pushT, hm.nb], ?_, ?_, ?_, ?_, ?_, ?_, ?_, by simp [pushT]⟩
    · intro r k y u bs' h1 h2 h3
      have h1 : (T.slots ++ [(T.ep, x)])[r]? = some (k, y) := h1
      rw [getElem?_snoc] at h1 h2 h3
      rw [hm.nv] at h2
      rw [hm.nb] at h3
      by_cases h : r < T.slots.length
      · rw [if_pos h] at h1 h2 h3
        exact hm.rep r k y u bs' h1 h2 h3
      · rw [if_neg h] at h1 h2 h3
        by_cases h' : r = T.slots.length
        · rw [if_pos h'] at h1 h2 h3
          injection h1 with h1; injection h1 with _ h1
          injection h2 with h2; injection h3 with h3
          subst h1; subst h2; subst h3
          exact hr
        · rw [if_neg h'] at h1; cases h1
    · intro r b1 h
      rcases cases3 r b1 h with h | ⟨_, rfl⟩
      · exact hm.nodup r b1 h
      · exact hn
    · intro r r' b1 b2 hne h1 h2 b hb1 hb2
      rcases cases3 r b1 h1 with g1 | ⟨e1, f1⟩ <;> rcases cases3 r' b2 h2 with g2 | ⟨e2, f2⟩
      · exact hm.disj r r' b1 b2 hne g1 g2 b hb1 hb2
      · exact (hb b (f2 ▸ hb2)).1 ⟨r, b1, g1, hb1⟩
      · exact (hb b (f1 ▸ hb1)).1 ⟨r', b2, g2, hb2⟩
      · omega
    · intro r b1 h b hb'
      rcases cases3 r b1 h with h | ⟨_, rfl⟩
      · exact hm.apart r b1 h b hb'
      · exact (hb b hb').2.1
    · intro r b1 h b hb'
      rcases cases3 r b1 h with h | ⟨_, rfl⟩
      · exact hm.mine r b1 h b hb'
      · exact (hb b hb').2.2
    · intro r y hlt h
      have h : (T.slots ++ [(T.ep, x)])[r]? = some (0, y) := h
      rw [getElem?_snoc] at h
      rw [getElem?_snoc, hm.nv]
      split at h
      · rename_i h'; rw [if_pos h']; exact hm.root r y hlt h
      · split at h
        · injection h with h
          injection h with h _
          have := hm.pos; omega
        · cases h
    · intro r k y h
      have h : (T.slots ++ [(T.ep, x)])[r]? = some (k, y) := h
      rw [getElem?_snoc] at h
      show k < T.ep + 1
      split at h
      · have := hm.ver r k y h; omega
      · split at h
        · injection h with h; injection h with h _; omega
        · cases h
  · intro u y h
    have hold : ∀ (r k : Nat) (x' : AV), k < T.ep → (pushT T x).slots[r]? = some (k, x') → T.slots[r]? = some (k, x') ∧ (vals ++ [v])[r]? = vals[r]? := fun r k x' hk' h => by
      have h : (T.slots ++ [(T.ep, x)])[r]? = some (k, x') := h
      rw [getElem?_snoc] at h
      rw [getElem?_snoc, hm.nv]
      split at h
      · rename_i hl; rw [if_pos hl]; exact ⟨h, rfl⟩
      · split at h
        · injection h with h; injection h with h _; omega
        · cases h
    have hep : ∀ k, k < T.ep → k < (pushT T x).ep := fun k h => by simp [pushT]; omega
    cases y with
    | sl r k off len =>
      refine ⟨hep _ h.1, h.2.1, fun e es v' sz h1 h2 h3 => ?_⟩
      obtain ⟨h4, h5⟩ := hold r k _ h.1 h1
      rw [h5] at h2
      exact h.2.2 e es v' sz h4 h2 h3
    | ptr r k i j =>
      refine ⟨hep _ h.1, h.2.1, fun e es v' sz h1 h2 h3 => ?_⟩
      obtain ⟨h4, h5⟩ := hold r k _ h.1 h1
      rw [h5] at h2
      exact h.2.2 e es v' sz h4 h2 h3
    | mp r k =>
      refine ⟨hep _ h.1, h.2.1, fun b ks v' h1 h2 => ?_⟩
      obtain ⟨h4, h5⟩ := hold r k _ h.1 h1
      rw [h5] at h2
      exact h.2.2 b ks v' h4 h2
    | _ => exact h
/-- More may be read for good. -/
theorem Mem.more {S' : Nat → Prop} (hm : Mem C T S vals bss w) (h1 : ∀ k, S k → S' k) (h2 : ∀ k, S' k → S k ∨ ((C.S0 k ∨ k ∈ C.own0 ∨ C.w0.heap.size ≤ k) ∧ k < w.heap.size ∧ ¬ InL bss k)) : Mem C T S' vals bss w :=
  ⟨hm.kept, fun k h => h1 k (hm.s0 k h), fun k h => (h2 k h).elim (hm.sub k) (·.1), fun k h => (h2 k h).elim (hm.lt k) (·.2.1), hm.nv, hm.nb, fun r k x v bs q1 q2 q3 => (hm.rep r k x v bs q1 q2 q3).mono fun k _ => h1 k, hm.nodup, hm.disj,
    fun r bs q b hb hs => (h2 b hs).elim (hm.apart r bs q b hb) fun h => h.2.2 ⟨r, bs, q, hb⟩, hm.mine, hm.root, hm.ver, hm.pos⟩
/-- What the caller makes of the results. -/
def unp : List AV → Sl → List AV × Sl
  | [], T => ([], T)
  | .own e es :: ys, T => let r := unp ys (pushT T (.own e es)); (.sl T.slots.length T.ep 0 es.length :: r.1, r.2)
  | y :: ys, T => let r := unp ys T; (y :: r.1, r.2)
def packR : List AV → AV
  | [z] => z
  | zs => .tup zs
theorem unp_ok : ∀ (ys : List AV) (us : List Value) (bsr : List (List Nat)) (T : Sl) (vals : List Value) (bss : List (List Nat)), Mem C T S vals bss w → us.length = ys.length → bsr.length = ys.length →
    (∀ (i : Nat) (u : Value) (y : AV) (bs : List Nat), us[i]? = some u → ys[i]? = some y → bsr[i]? = some bs → Rep C.P S w bs u y ∨ (bs = [] ∧ nrefA y = true ∧ ∃ T0 vals0, AggOK C.P S w T0 vals0 u y)) →
    Own2 bsr → (∀ b, InL bsr b → ¬ InL bss b ∧ ¬ S b ∧ (b ∈ C.own0 ∨ C.w0.heap.size ≤ b)) →
    ∃ vals' bss', Mem C (unp ys T).2 S vals' bss' w ∧ Follows C.P S w T vals S w (unp ys T).2 vals' ∧ RL (AggOK C.P S w (unp ys T).2 vals') us (unp ys T).1
  | [], us, bsr, T, vals, bss, hm, h1, h2, _, _, _ => by
    have : us = [] := List.eq_nil_of_length_eq_zero h1
    subst this
    exact ⟨vals, bss, hm, Follows.refl, RL.nil⟩
  | y :: ys, [], _, _, _, _, _, h1, _, _, _, _ => by simp at h1
  | y :: ys, u :: us, [], _, _, _, _, _, h2, _, _, _ => by simp at h2
  | y :: ys, u :: us, bs :: bsr, T, vals, bss, hm, h1, h2, h3, h4, h5 => by
    have hd := h3 0 u y bs rfl rfl rfl
    have htl : ∀ (i : Nat) (u : Value) (y : AV) (b : List Nat), us[i]? = some u → ys[i]? = some y → bsr[i]? = some b → Rep C.P S w b u y ∨ (b = [] ∧ nrefA y = true ∧ ∃ T0 vals0, AggOK C.P S w T0 vals0 u y) := fun i u y b q1 q2 q3 => h3 (i + 1) u y b (by simpa using q1) (by simpa using q2) (by simpa using q3)
    have hown : Own2 bsr := ⟨fun r b h => h4.nodup (r + 1) b (by simpa using h), fun r r' b b' hne q1 q2 => h4.disj (r + 1) (r' + 1) b b' (by omega) (by simpa using q1) (by simpa using q2)⟩
    have hin : ∀ b, InL bsr b → InL (bs :: bsr) b := fun b ⟨r, b1, q1, q2⟩ => ⟨r + 1, b1, by simpa using q1, q2⟩
    have plain : (∀ e es, y ≠ .own e es) → AggOK C.P S w T vals u y ∧ bs = bs → ∃ vals' bss', Mem C (unp (y :: ys) T).2 S vals' bss' w ∧ Follows C.P S w T vals S w (unp (y :: ys) T).2 vals' ∧ RL (AggOK C.P S w (unp (y :: ys) T).2 vals') (u :: us) (unp (y :: ys) T).1 := by
      intro hne ⟨ha, _⟩
      obtain ⟨vals', bss', g1, g2, g3⟩ := unp_ok ys us bsr T vals bss hm (by simpa using h1) (by simpa using h2) htl hown fun b hb => h5 b (hin b hb)
      have e : unp (y :: ys) T = (y :: (unp ys T).1, (unp ys T).2) := by
        cases y <;> first | rfl | (exact absurd rfl (hne _ _))
      rw [e]
      exact ⟨vals', bss', g1, g2, RL.cons (AggOK.follows g2 ha) g3⟩
    by_cases ho : ∃ e es, y = .own e es
    · obtain ⟨e, es, rfl⟩ := ho
      have hrep : ∃ b0, Rep C.P S w b0 u (.own e es) ∧ b0.Nodup ∧ (∀ b ∈ b0, b ∈ bs) := by
        rcases hd with h | ⟨rfl, _, T0, vals0, h⟩
        · exact ⟨bs, h, h4.nodup 0 bs rfl, fun b h => h⟩
        · exact ⟨[], h, by simp, by simp⟩
      obtain ⟨b0, hr, hnd, hsub⟩ := hrep
      obtain ⟨hm', hf⟩ := hm.push2 hr hnd fun b hb => h5 b ⟨0, bs, rfl, hsub b hb⟩
      obtain ⟨vals', bss', g1, g2, g3⟩ := unp_ok ys us bsr (pushT T (.own e es)) (vals ++ [u]) (bss ++ [b0]) hm' (by simpa using h1) (by simpa using h2) htl hown fun b hb => by
        obtain ⟨q1, q2, q3⟩ := h5 b (hin b hb)
        refine ⟨fun ⟨r, b1, p1, p2⟩ => ?_, q2, q3⟩
        rw [getElem?_snoc] at p1
        split at p1
        · exact q1 ⟨r, b1, p1, p2⟩
        · split at p1
          · injection p1 with p1
            subst p1
            obtain ⟨r', b2, p3, p4⟩ := hb
            exact h4.disj 0 (r' + 1) bs b2 (by omega) rfl (by simpa using p3) b (hsub b p2) p4
          · cases p1
      refine ⟨vals', bss', g1, fun u x h => g2 u x (hf u x h), RL.cons ?_ g3⟩
      have hp := push_sl (C := C) (S := S) (T := T) hm.nv hr
      exact AggOK.follows g2 (show AggOK C.P S w _ _ u (.sl T.slots.length T.ep 0 es.length) from hp)
    · refine plain (fun e es h => ho ⟨e, es, h⟩) ⟨?_, rfl⟩
      rcases hd with h | ⟨rfl, hn, T0, vals0, h⟩
      · cases h with
        | own => exact absurd ⟨_, _, rfl⟩ ho
        | any h => trivial
        | v h => exact Rep.v h
        | sln a b => exact Rep.sln a b
        | ro a b c d e f => exact Rep.ro a b c d e f
        | rof a b c d e => exact Rep.rof a b c d e
        | rop a b c => exact Rep.rop a b c
        | clo a b => exact Rep.clo a b
        | bm a b => exact Rep.bm a b
        | nm h => exact Rep.one h
        | byt => rfl
        | om => rfl
      · exact h.nref hn fun _ h => h
end
end Go.Proofs.Ytmihcabjoodogaa
namespace Go.Proofs.Ytmihcabjoodogaa
open Go.RowKit
set_option linter.unusedSimpArgs false
set_option linter.unusedVariables false
section
variable {C : Cx} {T : Sl} {S : Nat → Prop} {vals : List Value} {bss : List (List Nat)} {w : World} {o : Oper} {ev : Operand → AV}
/-- A slice of one's own, lent for reading. -/
theorem src_view (hm : Mem C T S vals bss w) {y : AV} {rows : List (List AV)} (h : Src T y rows) {u : Value} (hu : TmpOK C.P S w T vals u y) : Rep C.P (fun k => S k ∨ InL bss k) w [] u (.ro rows) := by
  obtain ⟨A, c, us, sz, e1, h3, h4, h5, h6, h7⟩ := src_cells hm h hu
  subst e1
  refine Rep.ro (us := us) h4 h5 h3 (fun hn => ?_) h6.1 fun i u x q1 q2 => (h6.2 i u x q1 q2).mono fun _ _ h => .inl h
  obtain ⟨g, oo, hA, hc⟩ := h7 hn
  refine ⟨g, oo, hA, ?_, hc⟩
  cases h with
  | ro =>
    obtain ⟨-, A', c', sz', us', e, g1, g2, g3, g4, g5, g6⟩ := hu.ro.ro_inv
    injection e with e1 e2 e3
    obtain ⟨g', o', q1, q2, q3⟩ := g4 (by rw [g5, ← h6.1]; exact hn)
    rw [← e1, hA] at q1
    injection q1 with q1; injection q1 with q1
    rw [q1]; exact .inl q2
  | rof =>
    obtain ⟨-, A', sz', us', e, g2, g3, g4, g5, g6⟩ := (show Rep C.P S w [] _ (.rof rows) from hu).rof_inv
    injection e with e1 e2 e3
    obtain ⟨g', o', q1, q2, q3⟩ := g4 (by rw [g5, ← h6.1]; exact hn)
    rw [← e1, hA] at q1
    injection q1 with q1; injection q1 with q1
    rw [q1]; exact .inl q2
  | nil =>
    have := hu.v
    injection this with e1
    rw [hA] at e1; cases e1
  | sl hT hr =>
    rename_i r k off len e es
    obtain ⟨v, bs, hv, hb, hrep⟩ := hm.slot hT
    obtain ⟨us0, sz0, bss', hbs, hi, hsz, hown, hul, hbl, hc0⟩ := hrep.own_inv
    obtain ⟨hol, A0, nn, cap, hve, g3, g4, g5, g6⟩ := hu.2.2 e es v sz0 hT hv hi
    refine .inr ⟨r, bs, hb, ?_⟩
    rw [hbs]
    refine List.mem_append_left _ ?_
    rcases g6 with ⟨-, h8⟩ | ⟨A', h0, h8, h9⟩
    · injection h8 with q1 q2 q3
      rw [← q1, hA] at hve
      rw [hve]; simp [Value.ownBlock]
    · injection h8 with q1 q2 q3
      rcases Nat.eq_zero_or_pos len with hl | hl
      · exfalso
        have : rows = [] := by
          rw [← hr, hl]; simp
        rw [h6.1, this] at hn
        simp at hn
      · obtain ⟨g', p1, p2⟩ := h9 hl
        rw [← q1, hA] at p2
        injection p2 with p2; injection p2 with p2
        rw [hve, p1, p2]; simp [Value.ownBlock]
theorem ptr_view (hm : Mem C T S vals bss w) {r k i j : Nat} {e : TypeId} {es : List (List AV)} {row cs : List AV} (hT : T.slots[r]? = some (k, .own e es)) (hrow : es[i]? = some row) (hcs : (row.drop j).map ldc = cs) {u : Value} (hu : TmpOK C.P S w T vals u (.ptr r k i j)) : Rep C.P (fun k => S k ∨ InL bss k) w [] u (.rop cs) := by
  obtain ⟨g, oo, he, hc⟩ := ptr_cells hm hT hu hrow
  obtain ⟨v, bs, hv, hb, hrep⟩ := hm.slot hT
  obtain ⟨us0, sz0, bss', hbs, hi, hsz, hown, hul, hbl, hc0⟩ := hrep.own_inv
  obtain ⟨hil, g', n', cap, hve, he2⟩ := hu.2.2 e es v sz0 hT hv hi
  have hget : ∀ q, q < cs.length → ∃ x c, row[j + q]? = some x ∧ w.cell? ⟨g, oo + q, none⟩ = some c ∧ Rep C.P S w [] c (ldc x) := fun q hq => by
    have hl : j + q < row.length := by rw [← hcs] at hq; simp at hq; omega
    have hx := List.getElem?_eq_getElem hl
    obtain ⟨c, bs, h3, h4⟩ := hc q _ hx
    exact ⟨_, c, hx, h3, h4.ldc⟩
  obtain ⟨us, hul2, hus⟩ : ∃ us : List Value, us.length = cs.length ∧ ∀ q u, us[q]? = some u → w.cell? ⟨g, oo + q, none⟩ = some u := by
    refine ⟨(List.range cs.length).map fun q => (w.cell? ⟨g, oo + q, none⟩).getD undef, by simp, fun q u hu => ?_⟩
    have hq : q < cs.length := by have := (List.getElem?_eq_some_iff.1 hu).1; simpa using this
    obtain ⟨x, c, _, h3, _⟩ := hget q hq
    simp [hq, h3] at hu
    rw [h3, hu]
  rw [he]
  refine Rep.rop (us := us) (fun _ => ⟨g, oo, rfl, .inr ⟨r, bs, hb, ?_⟩, hus⟩) hul2 fun q u x h1 h2 => ?_
  · rw [he] at he2
    injection he2 with he2; injection he2 with he2; injection he2 with he2
    rw [hbs, hve, he2]; simp [Value.ownBlock]
  · have hq : q < cs.length := (List.getElem?_eq_some_iff.1 h2).1
    obtain ⟨x', c, p1, p2, p3⟩ := hget q hq
    have := hus q u h1
    rw [p2] at this
    injection this with this
    subst this
    rw [← hcs, List.getElem?_map, List.getElem?_drop, p1] at h2
    simp only [Option.map_some, Option.some.injEq] at h2
    rw [← h2]
    exact p3.mono fun _ _ h => .inl h
/-- What an argument is lent as. -/
inductive View (T : Sl) : Bool → AV → AV → Prop
  | same {b x} (h : nrefA x = true) : View T b x x
  | nil {b} : View T b (.v (.slice none 0 0)) (.ro [])
  | rof {b es} : View T b (.rof es) (.ro es)
  | src {y rows} (h : Src T y rows) : View T true y (.ro rows)
  | ptr {r k i j e es row cs} (hT : T.slots[r]? = some (k, .own e es)) (hrow : es[i]? = some row) (hcs : (row.drop j).map ldc = cs) : View T true (.ptr r k i j) (.rop cs)
theorem rep_ro_nil {P : Program} {S : Nat → Prop} {w : World} : Rep P S w [] (.slice none 0 0) (.ro []) :=
  Rep.ro (es := []) (sz := 0) (us := []) (Nat.le_refl _) (by unfold maxLen; omega) (by simp) (fun h => by simp at h) rfl (by simp)
def lent (b : Bool) (S : Nat → Prop) (bss : List (List Nat)) : Nat → Prop := fun k => S k ∨ (b = true ∧ InL bss k)
theorem view_ok (hm : Mem C T S vals bss w) {b : Bool} {y x : AV} (h : View T b y x) {u : Value} (hu : TmpOK C.P S w T vals u y) : AggOK C.P (lent b S bss) w (insT []) [] u x := by
  have hl : ∀ k, S k → lent b S bss k := fun k h => .inl h
  cases h with
  | same hn =>
    have ha : AggOK C.P S w T vals u y := by
      cases y with
      | tup => cases hn
      | _ => exact hu
    exact ha.nref hn hl
  | nil => rw [hu.v]; exact rep_ro_nil
  | rof => exact (Rep.ro_of_rof (show Rep C.P S w [] u (.rof _) from hu)).mono fun k _ => hl k
  | src h => exact (src_view hm h hu).mono fun k _ h => h.elim .inl fun h => .inr ⟨rfl, h⟩
  | ptr hT hrow hcs => exact (ptr_view hm hT hrow hcs hu).mono fun k _ h => h.elim .inl fun h => .inr ⟨rfl, h⟩
theorem came0 (hm : Mem C T S vals bss w) {b : Bool} {args : Array Operand} {a : Act} {xs : List AV} (hv : RL (View T b) (args.toList.map ev) xs) (ho : ∀ y ∈ args, TmpOK C.P S w T vals (a.eval y) (ev y)) : Came C.P [] xs w (lent b S bss) [] [] (args.toList.map a.eval) := by
  refine ⟨fun k h => ?_, rfl, rfl, by simp, ⟨by simp, by simp⟩, fun b ⟨r, bs, h, _⟩ => by simp at h, by have := hv.1; simpa using this, fun i u x h1 h2 => ?_⟩
  · rcases h with h | ⟨_, r, bs, h1, h2⟩
    · exact hm.lt k h
    · exact hm.blt h1 k h2
  · rw [List.getElem?_map] at h1
    cases hq : args.toList[i]? with
    | none => rw [hq] at h1; cases h1
    | some y =>
      rw [hq] at h1
      simp only [Option.map_some, Option.some.injEq] at h1
      subst h1
      exact view_ok hm (hv.2 i (ev y) x (by rw [List.getElem?_map, hq]; rfl) h2) (ho y (Array.mem_toList_iff.1 (List.mem_of_getElem? hq)))
/-- Entering a function of the program. -/
def Enters (P : Program) (f : FuncId) : Prop := ∀ vs w, (callFunc f vs).run P w = .ok (.enter f vs) w
theorem op_call {f : FuncId} {args : Array Operand} {ts : Array TypeId} {b : Bool} {xs ys : List AV} (ho : o.op = .call { callee := .value (.func f), args := args, argTypes := ts }) (hf : Enters C.P f) (hsp : Fn C.P f [] xs ys []) (hv : RL (View T b) (args.toList.map ev) xs)
    (hn : ys.all nrefA = true) (hsol : b = true → ∀ y ∈ ys, SolidA C.P y) {x : AV} {T' : Sl} (hx : packR (unp ys T).1 = x) (hT : (unp ys T).2 = T') : OpJ C o ev T x T' := by
  intro a w S vals bss hm h K hK Q
  have hargs : ∀ y ∈ args, TmpOK C.P S w T vals (a.eval y) (ev y) := fun y hy => h y (by simp [ho, Op.operands, Call.operands]; exact .inr hy)
  have hc := hsp w (lent b S bss) [] [] _ (came0 hm hv hargs)
  have hrun : (execOp a.eval o).run C.P w = .ok (.enter f (args.toList.map a.eval).toArray) w := by
    have e1 : (args.map a.eval) = (args.toList.map a.eval).toArray := by apply Array.toList_inj.1; simp
    simp only [execOp, ho, resolve, Act.eval, Deferred.ofValue, Sem.run_bind, Sem.run_pure, Result.andThen_ok, invoke]
    rw [← e1]
    simpa using hf _ w
  unfold Oper.wp
  rw [hrun, Oper.upon_enter]
  refine hc.mono ?_
  rintro e w' ⟨us, ys', outs, bsr, bss', rfl, went, rfl, rfl⟩
  simp only
  have hb0 : bss' = [] := List.eq_nil_of_length_eq_zero went.nb
  subst hb0
  have hk : Kept (fun _ => True) w w' := went.kept.mono fun k _ _ ⟨r, bs, h, _⟩ => by simp at h
  have hown : Own2 bsr := by have := went.own; rwa [List.append_nil] at this
  have hmine : ∀ q, InL bsr q → w.heap.size ≤ q := fun q hq => by
    have := went.mine q (by rw [List.append_nil]; exact hq)
    exact this.resolve_right fun ⟨r, bs, h, _⟩ => by simp at h
  have hS2 : ∀ k, S k → S k ∨ (w.heap.size ≤ k ∧ k < w'.heap.size ∧ ¬ InL bsr k) := fun k h => .inl h
  have hm1 := (hm.grow hk).more (S' := fun k => S k ∨ (w.heap.size ≤ k ∧ k < w'.heap.size ∧ ¬ InL bsr k)) hS2 fun k h => by
    rcases h with h | ⟨h1, h2, h3⟩
    · exact .inl h
    · refine .inr ⟨.inr (.inr (by have := hm.kept.size; omega)), h2, fun ⟨r, bs, q1, q2⟩ => ?_⟩
      have := hm.blt q1 k q2; omega
  have hf1 : Follows C.P S w T vals (fun k => S k ∨ (w.heap.size ≤ k ∧ k < w'.heap.size ∧ ¬ InL bsr k)) w' T vals := Follows.kept hk (fun _ _ _ => trivial) hS2
  have hAf : ∀ k, After (lent b S bss) w w' [] (bsr ++ []) k → (S k ∨ (w.heap.size ≤ k ∧ k < w'.heap.size ∧ ¬ InL bsr k)) ∨ (b = true ∧ InL bss k) := fun k h => by
    rcases h with h | ⟨h1, h2, h3⟩
    · rcases h with h | h
      · exact .inl (.inl h)
      · exact .inr h
    · rcases h1 with h1 | ⟨r, bs, h, _⟩
      · rw [List.append_nil] at h3; exact .inl (.inr ⟨h1, h2, h3⟩)
      · simp at h
  obtain ⟨vals', bss'', g1, g2, g3⟩ := unp_ok ys' us bsr T vals bss hm1 went.nu went.nr (fun i u y bs q1 q2 q3 => by
    have hny : nrefA y = true := List.all_eq_true.1 hn y (List.mem_of_getElem? q2)
    cases b with
    | false =>
      have hA : ∀ k, After (lent false S bss) w w' [] (bsr ++ []) k → S k ∨ (w.heap.size ≤ k ∧ k < w'.heap.size ∧ ¬ InL bsr k) := fun k h => (hAf k h).resolve_right (by simp)
      rcases went.res i u y bs q1 q2 q3 with h | ⟨h1, h2⟩
      · exact .inl (h.mono fun k _ => hA k)
      · exact .inr ⟨h1, hny, T, vals, h2.nref hny hA⟩
    | true =>
      have hs := hsol rfl y (List.mem_of_getElem? q2)
      rcases went.res i u y bs q1 q2 q3 with h | ⟨h1, h2⟩
      · left
        cases y with
        | agg cs => exact absurd rfl (h.plain cs).1
        | _ => exact hs _ _ _ _ _ h
      · refine .inr ⟨h1, hny, T, vals, ?_⟩
        cases y with
        | any => trivial
        | agg cs =>
          obtain ⟨us', e, r⟩ := h2
          simp only [nrefA, List.all_eq_true] at hny
          refine ⟨us', e, r.1, fun i u x hu hx => ?_⟩
          have h3 := r.2 i u x hu hx
          have h4 := hny x (List.mem_of_getElem? hx)
          have h5 := hs x (List.mem_of_getElem? hx)
          cases x with
          | sl => cases h4
          | ptr => cases h4
          | mp => cases h4
          | nm => exact h3
          | byt => exact h3
          | om => exact h3
          | _ => exact h5 _ _ _ _ _ h3
        | sl => cases hny
        | ptr => cases hny
        | mp => cases hny
        | tup => cases hny
        | nm => exact h2
        | byt => exact h2
        | om => exact h2
        | _ => simp only [AggOK] at h2 ⊢; exact hs _ _ _ _ _ h2) hown (fun q hq => by
      have hge := hmine q hq
      refine ⟨fun ⟨r, bs, q1, q2⟩ => by have := hm.blt q1 q q2; omega, fun h => ?_, .inr (by have := hm.kept.size; omega)⟩
      rcases h with h | h
      · have := hm.lt q h; omega
      · exact h.2.2 hq)
  subst hT
  refine hK _ _ _ _ _ g1 (fun u x h => g2 u x (hf1 u x h)) ?_
  subst hx
  match us, hz : (unp ys' T).1, g3 with
  | [], zs, r =>
    have : zs = [] := List.eq_nil_of_length_eq_zero r.1.symm
    subst this
    exact ⟨#[], rfl, RL.nil⟩
  | [u], zs, r =>
    obtain ⟨z, rfl⟩ : ∃ z, zs = [z] := by
      match zs, r.1 with
      | [z], _ => exact ⟨z, rfl⟩
    exact (r.2 0 u z rfl rfl).tmp
  | u :: u2 :: us, zs, r =>
    obtain ⟨z1, z2, zs', rfl⟩ : ∃ z1 z2 zs', zs = z1 :: z2 :: zs' := by
      match zs, r.1 with
      | z1 :: z2 :: zs', _ => exact ⟨z1, z2, zs', rfl⟩
    exact ⟨_, rfl, by simpa using r⟩
/-- A call that only reads and gives one known value. -/
theorem op_callQ {f : FuncId} {args : Array Operand} {ts : Array TypeId} {b : Bool} {xs : List AV} {x : Value} (ho : o.op = .call { callee := .value (.func f), args := args, argTypes := ts }) (hf : Enters C.P f) (hsp : Fn C.P f [] xs [.v x] []) (hv : RL (View T b) (args.toList.map ev) xs) (hx : x.oneCell' = true) : OpQ C o ev T (.v x) := by
  intro a w S vals bss hm h
  refine ⟨x, fun w' hk => ?_, TmpOK.v_ hx⟩
  have hargs : ∀ y ∈ args, TmpOK C.P S w' T vals (a.eval y) (ev y) := fun y hy => TmpOK.follows (Follows.kept hk (fun _ _ _ => trivial) fun _ h => h) (h y (by simp [ho, Op.operands, Call.operands]; exact .inr hy))
  have hc := hsp w' (lent b S bss) [] [] _ (came0 (hm.grow hk) hv hargs)
  have hrun : (execOp a.eval o).run C.P w' = .ok (.enter f (args.toList.map a.eval).toArray) w' := by
    have e1 : (args.map a.eval) = (args.toList.map a.eval).toArray := by apply Array.toList_inj.1; simp
    simp only [execOp, ho, resolve, Act.eval, Deferred.ofValue, Sem.run_bind, Sem.run_pure, Result.andThen_ok, invoke]
    rw [← e1]
    simpa using hf _ w'
  unfold Oper.quietAt
  rw [hrun]
  refine ⟨rfl, hc.mono ?_⟩
  rintro e w'' ⟨us, ys', outs, bsr, bss', rfl, went, rfl, rfl⟩
  have hk2 : Kept (fun _ => True) w' w'' := went.kept.mono fun k _ _ ⟨r, bs, h, _⟩ => by simp at h
  refine ⟨?_, hk.trans hk2⟩
  match us, went.nu with
  | [u], _ =>
    have hr := went.res 0 u (.v x) (bsr[0]'(by rw [went.nr]; simp)) rfl rfl (List.getElem?_eq_getElem _)
    rcases hr with h | ⟨_, h⟩
    · rw [retV, h.v_inv.1]
    · rw [retV, (show Rep C.P _ w'' [] u (.v x) from h).v_inv.1]
end
end Go.Proofs.Ytmihcabjoodogaa
