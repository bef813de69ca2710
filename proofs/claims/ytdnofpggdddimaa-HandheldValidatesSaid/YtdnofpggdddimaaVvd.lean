import Derived.Test.YtdnofpggdddimaaVvc
namespace Go.Proofs.Ytdnofpggdddimaa
open Go.RowKit
set_option linter.unusedSimpArgs false
set_option linter.unusedVariables false
set_option maxRecDepth 100000
abbrev flightN (x : Int) : Flight := ⟨⟨#[66, 65]⟩, 1, ⟨#[]⟩, 1 + x⟩
theorem C41n (x : Int) (h : 0 ≤ x ∧ x < 27) : Fn Try.prog 41 [] [.v (.int .i64 x), .v (.int .i64 27)] [.v (.int .i64 x)] [] := by
  have h1 := C41 (x := x) (n := 27) (by decide)
  rwa [show gmod x 27 = x by unfold gmod; rw [if_neg (by decide), Int.tmod_eq_emod_of_nonneg (by omega), Int.emod_eq_of_lt (by omega) (by omega), if_neg (by omega)]] at h1
theorem C45_0 : Fn Try.prog 45 [] [.v (.int .i64 0)] [.agg (flightN 0).av] [] := by
  refine Spec.body Try.func45 rfl Try.ntmps45 (by simp) rfl ?_; intro S0 own0 v0 w0
  (refine AW.seq_k ?_; intro K hK)
  refine AW.region ?_
  refine awJ (op_alloc rfl ze73 rfl) ?_; (simp only [nA, Nat.reduceBEq, Nat.reduceEqDiff, ↓reduceIte])
  refine AWL.nil ?_
  (refine hK _ ?_; clear hK K; (simp only [nA, Nat.reduceBEq, Nat.reduceEqDiff, ↓reduceIte, Nat.reduceAdd, Nat.reduceSub]))
  (refine AW.seq_k ?_; intro K hK)
  refine AW.region ?_
  refine awP (op_move rfl rfl) ?_
  refine awJ (OpQ.j (op_callQ (b := true) rfl en41 (C41n 0 (by decide)) (RL.cons (by exact View.same rfl) (RL.cons (by exact View.same rfl) (RL.nil))) rfl)) ?_; (simp only [nA, ↓reduceIte])
  refine awP (op_assign rfl rfl) ?_
  refine AWL.nil ?_
  (refine hK _ ?_; clear hK K; (simp only [nA]))
  (refine AW.seq_k ?_; intro K hK)
  refine AW.region ?_
  refine awJ (op_buildSlice rfl [(0, [_]), (1, [_]), (2, [_])] [[_], [_], [_]] Try.underlying101 ze9 rfl (by simp) rfl (by simp) rfl (bl rfl) (by simp [maxLen])) ?_; (simp only [nA, Nat.reduceBEq, Nat.reduceEqDiff, ↓reduceIte])
  refine awP (op_move rfl rfl) ?_
  (refine awP (op_quoi rfl rfl rfl (by omega)) ?_)
  (refine awP (op_ia_sl 0 _ rfl rfl rfl rfl Try.underlying101 (by decide) (by decide) sz9 rfl) ?_)
  (refine awR (op_load_ptr1 rfl rfl rfl rfl ag9 rfl rfl) ?_)
  refine awP (op_move rfl rfl) ?_
  (refine awP (op_quoi rfl rfl rfl (by omega)) ?_)
  (refine awP (op_remi rfl rfl rfl (by omega)) ?_)
  (refine awP (op_addi rfl rfl rfl (by omega)) ?_)
  refine awP (op_move rfl rfl) ?_
  (refine awP (op_remi rfl rfl rfl (by omega)) ?_)
  (refine awP (op_addi rfl rfl rfl (by omega)) ?_)
  refine awP (op_build2 (xs := [_, _, .v (.string ⟨#[]⟩), _]) rfl pl73 ze73 [(0, [_]), (1, [_]), (3, [_])] rfl rfl rfl) ?_
  refine awJ (op_store rfl rfl rfl rfl rfl rfl sz73 rfl (bl rfl) rfl) ?_; (simp only [nA, Nat.reduceBEq, Nat.reduceEqDiff, ↓reduceIte])
  refine AWL.nil ?_
  (refine hK _ ?_; clear hK K; (skip))
  skip
  refine AW.ret ?_; exact RQ.of0 rfl (.cell (bl rfl) rfl rfl rfl ag73 sz73 (bl rfl) rfl rfl .nil)
theorem C45_1 : Fn Try.prog 45 [] [.v (.int .i64 1)] [.agg (flightN 1).av] [] := by
  refine Spec.body Try.func45 rfl Try.ntmps45 (by simp) rfl ?_; intro S0 own0 v0 w0
  (refine AW.seq_k ?_; intro K hK)
  refine AW.region ?_
  refine awJ (op_alloc rfl ze73 rfl) ?_; (simp only [nA, Nat.reduceBEq, Nat.reduceEqDiff, ↓reduceIte])
  refine AWL.nil ?_
  (refine hK _ ?_; clear hK K; (simp only [nA, Nat.reduceBEq, Nat.reduceEqDiff, ↓reduceIte, Nat.reduceAdd, Nat.reduceSub]))
  (refine AW.seq_k ?_; intro K hK)
  refine AW.region ?_
  refine awP (op_move rfl rfl) ?_
  refine awJ (OpQ.j (op_callQ (b := true) rfl en41 (C41n 1 (by decide)) (RL.cons (by exact View.same rfl) (RL.cons (by exact View.same rfl) (RL.nil))) rfl)) ?_; (simp only [nA, ↓reduceIte])
  refine awP (op_assign rfl rfl) ?_
  refine AWL.nil ?_
  (refine hK _ ?_; clear hK K; (simp only [nA]))
  (refine AW.seq_k ?_; intro K hK)
  refine AW.region ?_
  refine awJ (op_buildSlice rfl [(0, [_]), (1, [_]), (2, [_])] [[_], [_], [_]] Try.underlying101 ze9 rfl (by simp) rfl (by simp) rfl (bl rfl) (by simp [maxLen])) ?_; (simp only [nA, Nat.reduceBEq, Nat.reduceEqDiff, ↓reduceIte])
  refine awP (op_move rfl rfl) ?_
  (refine awP (op_quoi rfl rfl rfl (by omega)) ?_)
  (refine awP (op_ia_sl 0 _ rfl rfl rfl rfl Try.underlying101 (by decide) (by decide) sz9 rfl) ?_)
  (refine awR (op_load_ptr1 rfl rfl rfl rfl ag9 rfl rfl) ?_)
  refine awP (op_move rfl rfl) ?_
  (refine awP (op_quoi rfl rfl rfl (by omega)) ?_)
  (refine awP (op_remi rfl rfl rfl (by omega)) ?_)
  (refine awP (op_addi rfl rfl rfl (by omega)) ?_)
  refine awP (op_move rfl rfl) ?_
  (refine awP (op_remi rfl rfl rfl (by omega)) ?_)
  (refine awP (op_addi rfl rfl rfl (by omega)) ?_)
  refine awP (op_build2 (xs := [_, _, .v (.string ⟨#[]⟩), _]) rfl pl73 ze73 [(0, [_]), (1, [_]), (3, [_])] rfl rfl rfl) ?_
  refine awJ (op_store rfl rfl rfl rfl rfl rfl sz73 rfl (bl rfl) rfl) ?_; (simp only [nA, Nat.reduceBEq, Nat.reduceEqDiff, ↓reduceIte])
  refine AWL.nil ?_
  (refine hK _ ?_; clear hK K; (skip))
  skip
  refine AW.ret ?_; exact RQ.of0 rfl (.cell (bl rfl) rfl rfl rfl ag73 sz73 (bl rfl) rfl rfl .nil)
theorem C45_2 : Fn Try.prog 45 [] [.v (.int .i64 2)] [.agg (flightN 2).av] [] := by
  refine Spec.body Try.func45 rfl Try.ntmps45 (by simp) rfl ?_; intro S0 own0 v0 w0
  (refine AW.seq_k ?_; intro K hK)
  refine AW.region ?_
  refine awJ (op_alloc rfl ze73 rfl) ?_; (simp only [nA, Nat.reduceBEq, Nat.reduceEqDiff, ↓reduceIte])
  refine AWL.nil ?_
  (refine hK _ ?_; clear hK K; (simp only [nA, Nat.reduceBEq, Nat.reduceEqDiff, ↓reduceIte, Nat.reduceAdd, Nat.reduceSub]))
  (refine AW.seq_k ?_; intro K hK)
  refine AW.region ?_
  refine awP (op_move rfl rfl) ?_
  refine awJ (OpQ.j (op_callQ (b := true) rfl en41 (C41n 2 (by decide)) (RL.cons (by exact View.same rfl) (RL.cons (by exact View.same rfl) (RL.nil))) rfl)) ?_; (simp only [nA, ↓reduceIte])
  refine awP (op_assign rfl rfl) ?_
  refine AWL.nil ?_
  (refine hK _ ?_; clear hK K; (simp only [nA]))
  (refine AW.seq_k ?_; intro K hK)
  refine AW.region ?_
  refine awJ (op_buildSlice rfl [(0, [_]), (1, [_]), (2, [_])] [[_], [_], [_]] Try.underlying101 ze9 rfl (by simp) rfl (by simp) rfl (bl rfl) (by simp [maxLen])) ?_; (simp only [nA, Nat.reduceBEq, Nat.reduceEqDiff, ↓reduceIte])
  refine awP (op_move rfl rfl) ?_
  (refine awP (op_quoi rfl rfl rfl (by omega)) ?_)
  (refine awP (op_ia_sl 0 _ rfl rfl rfl rfl Try.underlying101 (by decide) (by decide) sz9 rfl) ?_)
  (refine awR (op_load_ptr1 rfl rfl rfl rfl ag9 rfl rfl) ?_)
  refine awP (op_move rfl rfl) ?_
  (refine awP (op_quoi rfl rfl rfl (by omega)) ?_)
  (refine awP (op_remi rfl rfl rfl (by omega)) ?_)
  (refine awP (op_addi rfl rfl rfl (by omega)) ?_)
  refine awP (op_move rfl rfl) ?_
  (refine awP (op_remi rfl rfl rfl (by omega)) ?_)
  (refine awP (op_addi rfl rfl rfl (by omega)) ?_)
  refine awP (op_build2 (xs := [_, _, .v (.string ⟨#[]⟩), _]) rfl pl73 ze73 [(0, [_]), (1, [_]), (3, [_])] rfl rfl rfl) ?_
  refine awJ (op_store rfl rfl rfl rfl rfl rfl sz73 rfl (bl rfl) rfl) ?_; (simp only [nA, Nat.reduceBEq, Nat.reduceEqDiff, ↓reduceIte])
  refine AWL.nil ?_
  (refine hK _ ?_; clear hK K; (skip))
  skip
  refine AW.ret ?_; exact RQ.of0 rfl (.cell (bl rfl) rfl rfl rfl ag73 sz73 (bl rfl) rfl rfl .nil)
theorem C45 (x : Int) (h : 0 ≤ x ∧ x < 3) : Fn Try.prog 45 [] [.v (.int .i64 x)] [.agg (flightN x).av] [] := by
  rcases (by omega : x = 0 ∨ x = 1 ∨ x = 2) with rfl | rfl | rfl
  · exact C45_0
  · exact C45_1
  exact C45_2
end Go.Proofs.Ytdnofpggdddimaa
namespace Go.Proofs.Ytdnofpggdddimaa
open Go.RowKit
set_option linter.unusedSimpArgs false
set_option linter.unusedVariables false
set_option maxRecDepth 100000
instance : Inhabited Container := ⟨zeroC⟩
abbrev oav (c : Container) : List AV := [.v (.int .i64 c.number), .v (.string c.flight.carrier), .v (.int .i64 c.flight.number), .v (.string c.flight.suffix), .v (.int .i64 c.flight.day), .v (.int .i64 c.categories), .v (.int .i64 c.limit), .v (.int .i64 c.most), .v (.int .i64 c.position), .v (.int .i64 c.arm), .own 31 (c.pieces.map Piece.av)]
abbrev nav (c : Container) : List AV := [.v (.int .i64 c.number), .v (.string c.flight.carrier), .v (.int .i64 c.flight.number), .v (.string c.flight.suffix), .v (.int .i64 c.flight.day), .v (.int .i64 c.categories), .v (.int .i64 c.limit), .v (.int .i64 c.most), .v (.int .i64 c.position), .v (.int .i64 c.arm), .v (.slice none 0 0)]
theorem cav_len (l : List Container) : ∀ x ∈ l.map Container.av, x.length = 11 := fun x hx => by
  obtain ⟨p, _, rfl⟩ := List.mem_map.1 hx; rfl
theorem RL.refl_le {P : Program} (l : List AV) : RL (Le2 P) l l := ⟨rfl, fun i u x h1 h2 => by rw [h1] at h2; injection h2 with h2; subst h2; exact .same⟩
abbrev mask6 : List Int := [31, 31, 31, 3, 30, 1]
abbrev cat8 : List Int := [0, 0, 0, 0, 1, 2, 3, 4]
abbrev nx2 (l : List Int) (k : Nat) : Nat := rawN l (rawN l k)
abbrev nx3 (l : List Int) (k : Nat) : Nat := rawN l (nx2 l k)
abbrev nx4 (l : List Int) (k : Nat) : Nat := rawN l (nx3 l k)
abbrev nx5 (l : List Int) (k : Nat) : Nat := rawN l (nx4 l k)
abbrev nx6 (l : List Int) (k : Nat) : Nat := rawN l (nx5 l k)
abbrev nx7 (l : List Int) (k : Nat) : Nat := rawN l (nx6 l k)
abbrev conA (l : List Int) (k : Nat) (num pos : Int) : Container :=
  ⟨num + (1 + gmod (rawV l k) 2), flightN (gmod (rawV l (rawN l k)) 3), pickV l (nx2 l k) mask6, 50 + gmod (rawV l (nx3 l k)) 300, 2 + gmod (rawV l (nx4 l k)) 10, pos, gmod (rawV l (nx5 l k)) 21 - 10, []⟩
def ph1 (l : List Int) : Nat → Nat → Int → List Container → Nat × List Container
  | 0, k, _, cs => (k, cs)
  | f + 1, k, num, cs => ph1 l f (nx7 l k) (num + (1 + gmod (rawV l k) 2)) (cs ++ [conA l k num (if gmod (rawV l (nx6 l k)) 3 > 0 then cs.length + 1 else 0)])
def idxV (l : List Int) (k n : Nat) : Nat := (gmod (rawV l k) (n : Nat)).toNat
theorem idxV_eq (l : List Int) (k : Nat) {n : Nat} (h : 1 ≤ n) : gmod (rawV l k) (n : Nat) = (idxV l k n : Nat) := by
  have hg := gmod_bd (x := rawV l k) (n := (n : Nat)) (by omega)
  unfold idxV; omega
theorem idxV_lt (l : List Int) (k : Nat) {n : Nat} (h : 1 ≤ n) : idxV l k n < n := by
  have hg := gmod_bd (x := rawV l k) (n := (n : Nat)) (by omega)
  unfold idxV; omega
theorem C12n {l : List Int} {k n : Nat} (hl : l.length ≤ 2000) (h1 : 1 ≤ n) (h2 : n ≤ 100000) : Fn Try.prog 12 [.own 81 [srcRow l k]] [.ptr 0 0 0 0, .v (.int .i64 (n : Nat))] [.v (.int .i64 (idxV l k n : Nat))] [.own 81 [srcRow l (rawN l k)]] := by
  have := C12 (l := l) (k := k) (n := (n : Nat)) hl (by omega)
  rwa [idxV_eq l k h1] at this
def addP (c : Container) (p : Piece) : Container := { c with pieces := c.pieces ++ [p] }
abbrev pieA (l : List Int) (i k : Nat) : Piece := ⟨platesP i, 1 + gmod (rawV l (nx2 l k)) 30, pickV l (nx3 l k) cat8⟩
def ph2 (l : List Int) : Nat → Nat → Nat → List Container → Nat × List Container
  | 0, _, k, cs => (k, cs)
  | f + 1, i, k, cs => if gmod (rawV l k) 3 = 0 then ph2 l f (i + 1) (rawN l k) cs else
    if (((cs.getD (idxV l (rawN l k) cs.length) default).pieces.length : Nat) : Int) < 20 then ph2 l f (i + 1) (nx4 l k) (cs.set (idxV l (rawN l k) cs.length) (addP (cs.getD (idxV l (rawN l k) cs.length) default) (pieA l i k)))
    else ph2 l f (i + 1) (nx4 l k) cs
def contsV (l : List Int) (k m n : Nat) : Nat × List Container :=
  let r := ph1 l (idxV l k (m + 1)) (rawN l k) 0 []
  if r.2.length = 0 then r else ph2 l n 0 r.1 r.2
end Go.Proofs.Ytdnofpggdddimaa
namespace Go.Proofs.Ytdnofpggdddimaa
open Go.RowKit
set_option linter.unusedSimpArgs false
set_option linter.unusedVariables false
set_option maxRecDepth 100000
def delL (l : List Piece) (p : Plate) : List Piece := l.take (posP l p) ++ l.drop (posP l p + 1)
structure InvA (num : Int) (cs : List Container) : Prop where
  co : ∀ c ∈ cs, coB c = true
  nil : ∀ c ∈ cs, c.pieces = []
  le : ∀ c ∈ cs, c.number ≤ num
  asc : cs.Pairwise fun c d => c.number < d.number
  pos : ∀ (i : Nat) (h : i < cs.length), cs[i].position = 0 ∨ cs[i].position = i + 1
theorem flB_N {x : Int} (h : 0 ≤ x ∧ x < 3) : flB (flightN x) = true := by
  rcases (by omega : x = 0 ∨ x = 1 ∨ x = 2) with rfl | rfl | rfl <;> kernel_rfl
theorem coB_intro {c : Container} (h1 : 1 ≤ c.number ∧ c.number ≤ 999) (h2 : flB c.flight = true) (h3 : 0 ≤ c.categories ∧ c.categories ≤ 31) (h4 : 0 ≤ c.limit ∧ c.limit ≤ 20000) (h5 : 0 ≤ c.most ∧ c.most ≤ 60) (h6 : 0 ≤ c.position ∧ c.position ≤ 24) (h7 : -50 ≤ c.arm ∧ c.arm ≤ 50) : coB c = true := by
  unfold coB inB
  rw [h2]
  simp
  omega
theorem conA_ok {l : List Int} {k : Nat} {num pos : Int} (h1 : 0 ≤ num ∧ num ≤ 900) (h2 : 0 ≤ pos ∧ pos ≤ 24) : coB (conA l k num pos) = true := by
  have hg1 := gmod_bd (x := rawV l k) (n := 2) (by decide)
  have hg2 := gmod_bd (x := rawV l (rawN l k)) (n := 3) (by decide)
  have hg3 := gmod_bd (x := rawV l (nx3 l k)) (n := 300) (by decide)
  have hg4 := gmod_bd (x := rawV l (nx4 l k)) (n := 10) (by decide)
  have hg5 := gmod_bd (x := rawV l (nx5 l k)) (n := 21) (by decide)
  have hm : pickV l (nx2 l k) mask6 ∈ mask6 := pickV_mem (by decide)
  have hm2 : 0 ≤ pickV l (nx2 l k) mask6 ∧ pickV l (nx2 l k) mask6 ≤ 31 := by simp at hm; omega
  refine coB_intro ?_ (flB_N hg2) hm2 ?_ ?_ h2 ?_ <;> dsimp only [conA] <;> omega
theorem InvA.step {num : Int} {cs : List Container} (h : InvA num cs) (l : List Int) (k : Nat) {pos : Int} (h1 : 0 ≤ num ∧ num ≤ 900) (hl : cs.length ≤ 23) (hp : pos = 0 ∨ pos = cs.length + 1) : InvA (num + (1 + gmod (rawV l k) 2)) (cs ++ [conA l k num pos]) := by
  have hg1 := gmod_bd (x := rawV l k) (n := 2) (by decide)
  refine ⟨fun c hc => ?_, fun c hc => ?_, fun c hc => ?_, ?_, fun i hi => ?_⟩
  · rcases List.mem_append.1 hc with hc | hc
    · exact h.co c hc
    obtain rfl : c = _ := by simpa using hc
    exact conA_ok h1 (by omega)
  · rcases List.mem_append.1 hc with hc | hc
    · exact h.nil c hc
    obtain rfl : c = _ := by simpa using hc
    rfl
  · rcases List.mem_append.1 hc with hc | hc
    · have := h.le c hc; omega
    obtain rfl : c = _ := by simpa using hc
    exact Int.le_refl _
  · refine List.pairwise_append.2 ⟨h.asc, List.pairwise_singleton _ _, fun a ha b hb => ?_⟩
    obtain rfl : b = _ := by simpa using hb
    have := h.le a ha
    show a.number < num + (1 + gmod (rawV l k) 2)
    omega
  by_cases hi' : i < cs.length
  · rw [List.getElem_append_left hi']; exact h.pos i hi'
  have : i = cs.length := by simp at hi; omega
  subst this
  simp
  exact hp
structure InvB (i : Nat) (cs : List Container) : Prop where
  co : ∀ c ∈ cs, coB c = true
  asc : cs.Pairwise fun c d => c.number < d.number
  pos : ∀ (i : Nat) (h : i < cs.length), cs[i].position = 0 ∨ cs[i].position = i + 1
  pasc : ∀ c ∈ cs, AscP c.pieces
  pok : ∀ c ∈ cs, ∀ x ∈ c.pieces, piB x = true
  below : ∀ c ∈ cs, ∀ x ∈ c.pieces, x.plate.lead = 0 ∧ x.plate.airline = 117 ∧ x.plate.serial < 1000 + i
  len : ∀ c ∈ cs, c.pieces.length ≤ 20
  disj : cs.Pairwise fun c d => ∀ x ∈ c.pieces, ∀ y ∈ d.pieces, x.plate ≠ y.plate
theorem InvA.b {num : Int} {cs : List Container} (h : InvA num cs) : InvB 0 cs :=
  ⟨h.co, h.asc, h.pos, fun c hc => by rw [h.nil c hc]; exact List.Pairwise.nil, fun c hc x hx => by rw [h.nil c hc] at hx; simp at hx, fun c hc x hx => by rw [h.nil c hc] at hx; simp at hx, fun c hc => by rw [h.nil c hc]; simp,
    List.pairwise_iff_getElem.2 fun i j hi hj _ x hx => by rw [h.nil _ (List.getElem_mem hi)] at hx; simp at hx⟩
theorem InvB.skip {i : Nat} {cs : List Container} (h : InvB i cs) : InvB (i + 1) cs :=
  ⟨h.co, h.asc, h.pos, h.pasc, h.pok, fun c hc x hx => by have := h.below c hc x hx; omega, h.len, h.disj⟩
theorem InvB.val {i : Nat} {cs : List Container} (h : InvB i cs) {c : Container} (hc : c ∈ cs) : valC c = 0 :=
  val_intro (h.co c hc) (by have := h.len c hc; omega) (h.pok c hc) (ascP_iff.1 (h.pasc c hc))
theorem InvB.add {i : Nat} {cs : List Container} (h : InvB i cs) (hi : i < 100) {q : Nat} (hq : q < cs.length) {p : Piece} (hpp : p.plate = platesP i) (hp : piB p = true) (hl : cs[q].pieces.length < 20) : InvB (i + 1) (cs.set q (addP cs[q] p)) := by
  have hpl := plates_lt (i := i) hi
  have hqm := List.getElem_mem hq
  have hin : ∀ c ∈ cs.set q (addP cs[q] p), c ∈ cs ∨ c = addP cs[q] p := fun c hc => List.mem_or_eq_of_mem_set hc
  have hnew : ∀ c ∈ cs, ∀ x ∈ c.pieces, PLt x.plate p.plate := fun c hc x hx => by
    obtain ⟨h1, h2, h3⟩ := h.below c hc x hx
    rw [hpp, hpl]; unfold PLt; simp only; omega
  have hpc : ∀ x ∈ (addP cs[q] p).pieces, x ∈ cs[q].pieces ∨ x = p := fun x hx => by
    rcases List.mem_append.1 hx with hx | hx
    · exact .inl hx
    exact .inr (by simpa using hx)
  have hnum : ∀ (j : Nat) (hj : j < (cs.set q (addP cs[q] p)).length), (cs.set q (addP cs[q] p))[j].number = (cs[j]'(by simpa using hj)).number := fun j hj => by
    rw [List.getElem_set]
    split
    · rename_i e; subst e; rfl
    rfl
  have hpos : ∀ (j : Nat) (hj : j < (cs.set q (addP cs[q] p)).length), (cs.set q (addP cs[q] p))[j].position = (cs[j]'(by simpa using hj)).position := fun j hj => by
    rw [List.getElem_set]
    split
    · rename_i e; subst e; rfl
    rfl
  refine ⟨fun c hc => ?_, ?_, fun j hj => ?_, fun c hc => ?_, fun c hc x hx => ?_, fun c hc x hx => ?_, fun c hc => ?_, ?_⟩
  · rcases hin c hc with hc | rfl
    · exact h.co c hc
    exact (show coB cs[q] = true from h.co _ hqm)
  · refine List.pairwise_iff_getElem.2 fun a b ha hb hab => ?_
    have := List.pairwise_iff_getElem.1 h.asc a b (by simpa using ha) (by simpa using hb) hab
    rw [hnum, hnum]
    exact this
  · have := h.pos j (by simpa using hj)
    rw [hpos]
    exact this
  · rcases hin c hc with hc | rfl
    · exact h.pasc c hc
    refine List.pairwise_append.2 ⟨h.pasc _ hqm, List.pairwise_singleton _ _, fun a ha b hb => ?_⟩
    obtain rfl : b = _ := by simpa using hb
    exact hnew _ hqm a ha
  · rcases hin c hc with hc | rfl
    · exact h.pok c hc x hx
    rcases hpc x hx with hx | rfl
    · exact h.pok _ hqm x hx
    exact hp
  · rcases hin c hc with hc | rfl
    · have := h.below c hc x hx; omega
    rcases hpc x hx with hx | rfl
    · have := h.below _ hqm x hx; omega
    rw [hpp, hpl]; exact ⟨rfl, rfl, by dsimp only; omega⟩
  · rcases hin c hc with hc | rfl
    · exact h.len c hc
    unfold addP; simp; omega
  refine List.pairwise_iff_getElem.2 fun a b ha hb hab => ?_
  have ha' : a < cs.length := by simpa using ha
  have hb' : b < cs.length := by simpa using hb
  have h0 := List.pairwise_iff_getElem.1 h.disj a b ha' hb' hab
  rw [List.getElem_set, List.getElem_set]
  split
  · rename_i e
    subst e
    rw [if_neg (by omega)]
    intro x hx y hy
    rcases hpc x hx with hx | rfl
    · exact h0 x hx y hy
    intro e; have := hnew _ (List.getElem_mem hb') y hy; rw [e] at this; exact PLt.irrefl _ this
  split
  · rename_i e
    subst e
    intro x hx y hy
    rcases hpc y hy with hy | rfl
    · exact h0 x hx y hy
    intro e; have := hnew _ (List.getElem_mem ha') x hx; rw [e] at this; exact PLt.irrefl _ this
  exact h0
end Go.Proofs.Ytdnofpggdddimaa
namespace Go.Proofs.Ytdnofpggdddimaa
open Go.RowKit
set_option linter.unusedSimpArgs false
set_option linter.unusedVariables false
set_option maxRecDepth 100000
theorem get_of {α β : Type} {f : α → β} {xs : List α} {m : Nat} {x : α} (h : xs[m]? = some x) : (xs.map f)[m]? = some (f x) := by simp [h]
end Go.Proofs.Ytdnofpggdddimaa
namespace Go.Proofs.Ytdnofpggdddimaa
open Go.RowKit
set_option linter.unusedSimpArgs false
set_option linter.unusedVariables false
set_option maxRecDepth 100000
abbrev plV (p : Plate) : Value := .agg #[.int .i64 p.lead, .int .i64 p.airline, .int .i64 p.serial]
abbrev spV (c : Container) : Value := .agg #[.string c.flight.carrier, .int .i64 c.flight.number, .string c.flight.suffix, .int .i64 c.flight.day, .int .i64 c.position]
structure Spot where
  carrier : List UInt8
  number : Int
  suffix : List UInt8
  day : Int
  position : Int
  deriving DecidableEq
def spotOf (c : Container) : Spot := ⟨c.flight.carrier.data.toList, c.flight.number, c.flight.suffix.data.toList, c.flight.day, c.position⟩
theorem plV_mem {p : Plate} {l : List Plate} : decide (p ∈ l) = true ↔ plV p ∈ l.map plV := by
  rw [decide_eq_true_eq, List.mem_map]
  constructor
  · intro h; exact ⟨p, h, rfl⟩
  rintro ⟨q, hq, e⟩
  obtain ⟨a, b, c⟩ := p
  obtain ⟨a', b', c'⟩ := q
  simp at e
  obtain ⟨rfl, rfl, rfl⟩ := e
  exact hq
theorem bytes_ext {a b : ByteArray} (h : a.data.toList = b.data.toList) : a = b := by
  cases a; cases b
  simp at h
  rw [h]
theorem spV_mem {c : Container} {l : List Container} : decide (spotOf c ∈ l.map spotOf) = true ↔ spV c ∈ l.map spV := by
  rw [decide_eq_true_eq, List.mem_map, List.mem_map]
  have key : ∀ d : Container, spotOf d = spotOf c ↔ spV d = spV c := fun d => by
    unfold spotOf
    simp only [Spot.mk.injEq]
    constructor
    · rintro ⟨h1, h2, h3, h4, h5⟩
      show Value.agg _ = Value.agg _
      rw [bytes_ext h1, h2, bytes_ext h3, h4, h5]
    intro h
    simp at h
    obtain ⟨h1, h2, h3, h4, h5⟩ := h
    exact ⟨by rw [h1], h2, by rw [h3], h4, h5⟩
  constructor
  · rintro ⟨d, hd, e⟩; exact ⟨d, hd, (key d).1 e⟩
  rintro ⟨d, hd, e⟩; exact ⟨d, hd, (key d).2 e⟩
def chkP : List Piece → List Plate → Option (List Plate)
  | [], pl => some pl
  | p :: l, pl => if p.plate ∈ pl then none else chkP l (p.plate :: pl)
theorem chkP_nil (pl : List Plate) : chkP [] pl = some pl := rfl
theorem chkP_cons (p : Piece) (l : List Piece) (pl : List Plate) : chkP (p :: l) pl = if p.plate ∈ pl then none else chkP l (p.plate :: pl) := rfl
def prevBad (o : Option Int) (n : Int) : Bool := match o with
  | none => false
  | some m => decide (n ≤ m)
def chk : Option Int → List Container → List Container → List Plate → Int
  | _, [], _, _ => 0
  | o, c :: cs, sp, pl => if valC c ≠ 0 then valC c else if prevBad o c.number = true then 9 else if c.position ≠ 0 ∧ spotOf c ∈ sp.map spotOf then 7 else
    match chkP c.pieces pl with
    | none => 5
    | some pl' => chk (some c.number) cs (if c.position ≠ 0 then c :: sp else sp) pl'
def chkL (xs : List Container) : Int := if (xs.length : Int) > 24 then 2 else chk none xs [] []
def prevN (xs : List Container) (i : Nat) : Option Int := if i = 0 then none else some (xs.getD (i - 1) default).number
theorem prevN_succ {xs : List Container} {i : Nat} {c : Container} (h : xs[i]? = some c) : prevN xs (i + 1) = some c.number := by
  unfold prevN
  rw [if_neg (by omega), Nat.add_sub_cancel, List.getD_eq_getElem?_getD, h]
  rfl
theorem prevBad_eq (xs : List Container) (i : Nat) (n : Int) : prevBad (prevN xs i) n = (decide ((i : Int) > 0) && decide (n ≤ (xs.getD (i - 1) default).number)) := by
  unfold prevN
  by_cases h : i = 0
  · subst h; rfl
  rw [if_neg h, show decide ((i : Int) > 0) = true from decide_eq_true (by omega)]
  rfl
theorem drop_cons {α : Type} {xs : List α} {i : Nat} {c : α} (h : xs[i]? = some c) : xs.drop i = c :: xs.drop (i + 1) := by
  obtain ⟨hi, rfl⟩ := List.getElem?_eq_some_iff.1 h
  exact List.drop_eq_getElem_cons hi
theorem fl_range {f : Flight} (h : flB f = true) : f.carrier.size ≤ maxLen ∧ (Lit.int .i64 f.number).wf = true ∧ f.suffix.size ≤ maxLen ∧ (Lit.int .i64 f.day).wf = true := by
  unfold flB carB lettersB at h
  simp at h
  unfold maxLen
  exact ⟨by omega, wf64 (by omega), by omega, wf64 (by omega)⟩
theorem co_parts {c : Container} (h : coB c = true) : flB c.flight = true ∧ 0 ≤ c.position ∧ c.position ≤ 24 ∧ 1 ≤ c.number ∧ c.number ≤ 999 := by
  unfold coB inB at h
  simp at h
  exact ⟨h.1.1.1.1.1.2, by omega, by omega, by omega, by omega⟩
theorem pl_range {p : Plate} (h : plB p = true) : (Lit.int .i64 p.lead).wf = true ∧ (Lit.int .i64 p.airline).wf = true ∧ (Lit.int .i64 p.serial).wf = true := by
  unfold plB at h
  simp at h
  exact ⟨wf64 (by omega), wf64 (by omega), wf64 (by omega)⟩
set_option maxHeartbeats 4000000 in
theorem C64 {xs : List Container} (hx : xs.length ≤ 1000000) : Fn Try.prog 64 [] [.ro (xs.map Container.av)] [.v (.int .i64 (chkL xs))] [] := by
  refine Spec.body Try.func64 rfl Try.ntmps64 (by simp) rfl ?_; intro S0 own0 v0 w0
  (refine AW.seq_k ?_; intro K hK)
  refine AW.region ?_
  refine awP (op_assign rfl rfl) ?_
  refine AWL.nil ?_
  (refine hK _ ?_; clear hK K; (simp only [nA, Nat.reduceBEq, Nat.reduceEqDiff, ↓reduceIte, Nat.reduceAdd, Nat.reduceSub]))
  (refine AW.seq_k ?_; intro K hK)
  (refine AW.seq_k ?_; intro K hK)
  refine AW.region ?_
  refine awP (op_move rfl rfl) ?_
  (refine awP (op_len_ro rfl rfl Try.underlying23 (by exact .inr (.inl ⟨_, rfl, rfl⟩))) ?_)
  refine awP (op_gtr rfl rfl rfl) ?_
  refine AWL.nil ?_
  (refine hK _ ?_; clear hK K; (simp only [nA, ↓reduceIte]))
  refine AW.cond rfl rfl rfl (fun hc => ?_) (fun hc => ?_)
  ·
   (try simp only [hcS] at hc); have hc1 := hc
   (refine AW.seq_k ?_; intro K hK)
   refine AW.region ?_
   refine awP (op_assign rfl rfl) ?_
   refine AWL.nil ?_
   (refine hK _ ?_; clear hK K; (simp only [nA, Nat.reduceBEq, Nat.reduceEqDiff, ↓reduceIte, Nat.reduceAdd, Nat.reduceSub]))
   skip
   refine AW.ret ?_; (simp only [thenE, inBlk, Nat.reduceEqDiff, ↓reduceIte]); rw [show chkL xs = 2 by unfold chkL; rw [if_pos (by omega)]]; exact RQ.of0 rfl (.tmp (bl rfl) rfl rfl .nil)
  (try simp only [hcS] at hc); have hc1 := hc
  refine AW.skip ?_
  (refine hK _ ?_; clear hK K; (skip))
  (refine AW.seq_k ?_; intro K hK)
  refine AW.region ?_
  refine awJ (op_makeMap rfl Try.underlying117 Try.underlying4 kd120) ?_; (simp only [nA, Nat.reduceBEq, Nat.reduceEqDiff, ↓reduceIte])
  refine awJ (op_makeMap rfl Try.underlying118 Try.underlying4 kd29) ?_; (simp only [nA, Nat.reduceBEq, Nat.reduceEqDiff, ↓reduceIte])
  refine awP (op_assign rfl rfl) ?_
  refine awP (op_assign rfl rfl) ?_
  refine AWL.nil ?_
  (refine hK _ ?_; clear hK K; (simp only [nA, ↓reduceIte]))
  (refine AW.seq_k ?_; intro K hK)
  (refine AW.seq_k ?_; intro K hK)
  refine AW.region ?_
  refine awP (op_move rfl rfl) ?_
  (refine awP (op_len_ro rfl rfl Try.underlying23 (by exact .inr (.inl ⟨_, rfl, rfl⟩))) ?_)
  refine awP (op_move rfl rfl) ?_
  refine AWL.nil ?_
  (refine hK _ ?_; clear hK K; (simp only [nA, ↓reduceIte]))
  refine AW.block ?_
  refine AW.loopI (fun (q : Nat × List Container × List Plate × Nat) => [(0, .ro (xs.map Container.av)), (3, .mp 0 1), (4, .mp 1 2), (16, .ro (xs.map Container.av)), (17, .v (.int .i64 (xs.length : Nat))), (18, .v (.int .i64 (q.1 : Nat)))]) (fun q => ⟨[(1, .om 117 (q.2.1.map spV)), (2, .om 118 (q.2.2.1.map plV))], q.2.2.2⟩) (fun q => q.1 ≤ xs.length ∧ q.2.1.length ≤ q.1 ∧ q.2.2.1.length ≤ 60 * q.1 ∧ chk (prevN xs q.1) (xs.drop q.1) q.2.1 q.2.2.1 = chkL xs) (fun q => xs.length - q.1) (0, [], [], 3) ⟨by simp, by simp, by simp, by unfold chkL; rw [if_neg (by omega)]; rfl⟩ ⟨rfl, rfl, rfl, rfl, rfl, rfl, trivial⟩ rfl ?_; rintro ⟨i, sp, pl, e⟩ ρ hI; simp only at hI; simp only [updL]
  (refine AW.seq_k ?_; intro K hK)
  refine AW.region ?_
  refine awP (op_lss rfl rfl rfl) ?_
  refine AWL.nil ?_
  (refine hK _ ?_; clear hK K; (simp only [nA, Nat.reduceBEq, Nat.reduceEqDiff, ↓reduceIte, Nat.reduceAdd, Nat.reduceSub]))
  (refine AW.seq_k ?_; intro K hK)
  refine AW.cond rfl rfl rfl (fun hc => ?_) (fun hc => ?_)
  ·
   (try simp only [hcS] at hc); have hc2 := hc; have hlt : i < xs.length := (by simpa using hc2); obtain ⟨c, hci⟩ : ∃ c, xs[i]? = some c := ⟨xs[i], List.getElem?_eq_getElem hlt⟩; have hR := hI.2.2.2; rw [drop_cons hci] at hR; unfold chk at hR
   refine AW.skip ?_
   (refine hK _ ?_; clear hK K; (skip))
   (refine AW.seq_k ?_; intro K hK)
   refine AW.block ?_
   (refine AW.seq_k ?_; intro K hK)
   refine AW.region ?_
   refine awP (op_move rfl rfl) ?_
   (refine awP (op_ia_ro i rfl (.inl rfl) rfl Try.underlying23 rfl (get_of hci) (by exact sz77) (bl rfl)) ?_)
   (refine awR (op_load_rop rfl rfl ag77 sz77 (bl rfl) (by decide) rfl) ?_)
   refine awJ (op_alloc rfl ze77 rfl) ?_; (simp only [nA, Nat.reduceBEq, Nat.reduceEqDiff, ↓reduceIte])
   refine awP (op_assign rfl rfl) ?_
   refine awJ (op_store rfl rfl rfl rfl rfl rfl sz77 rfl (bl rfl) rfl) ?_; (simp only [nA, Nat.reduceBEq, Nat.reduceEqDiff, ↓reduceIte])
   refine AWL.nil ?_
   (refine hK _ ?_; clear hK K; (skip))
   (refine AW.seq_k ?_; intro K hK)
   (refine AW.seq_k ?_; intro K hK)
   refine AW.region ?_
   (refine awR (op_load_ptr rfl rfl rfl rfl ag77 sz77 (bl rfl) rfl) ?_)
   refine awJ (OpQ.j (op_callQ (b := true) rfl en83 (C83 (c := c)) (RL.cons (by exact View.same rfl) (RL.nil)) rfl)) ?_; (simp only [nA, Nat.reduceBEq, Nat.reduceEqDiff, ↓reduceIte, Nat.reduceAdd, Nat.reduceSub])
   refine awP (op_assign rfl rfl) ?_
   refine AWL.nil ?_
   (refine hK _ ?_; clear hK K; (simp only [nA]))
   (refine AW.seq_k ?_; intro K hK)
   refine AW.region ?_
   refine awP (op_move rfl rfl) ?_
   (refine awP (op_neq rfl rfl rfl) ?_)
   refine AWL.nil ?_
   (refine hK _ ?_; clear hK K; (simp only [nA]))
   refine AW.cond rfl rfl rfl (fun hc => ?_) (fun hc => ?_)
   ·
    (try simp only [hcS] at hc); have hc3 := hc
    (refine AW.seq_k ?_; intro K hK)
    refine AW.region ?_
    refine awP (op_move rfl rfl) ?_
    refine awP (op_assign rfl rfl) ?_
    refine AWL.nil ?_
    (refine hK _ ?_; clear hK K; (simp only [nA, ↓reduceIte]))
    skip
    refine AW.ret ?_; (simp only [thenE, inBlk, Nat.reduceEqDiff, ↓reduceIte]); rw [if_pos (by simpa using hc3)] at hR; rw [← hR]; exact RQ.of0 rfl (.tmp (bl rfl) rfl rfl .nil)
   (try simp only [hcS] at hc); have hc3 := hc; have hv0 : valC c = 0 := (by simpa using hc3); have hv := val_inv hv0; have hco := co_parts hv.1; have hfr := fl_range hco.1; rw [if_neg (by simp [hv0])] at hR
   refine AW.skip ?_
   (refine hK _ ?_; clear hK K; (skip))
   (refine AW.seq_k ?_; intro K hK)
   (refine AW.seq_k ?_; intro K hK)
   refine AW.quiet mix (by kernel_rfl) ?_
   refine aqP (op_move rfl rfl) ?_
   refine aqP (op_gtr rfl rfl rfl) ?_
   refine aqP (op_move rfl rfl) ?_
   refine' aqAnd' [_, _, _, _, _, _, _, _, _] [31,32,33,34,35,36,37,38,39] rfl rfl rfl rfl rfl rfl rfl rfl rfl rfl rfl rfl (fun hb => ?_) ?_; rotate_left
   ·
    (try simp only [hcS] at hb)
    (refine aqP (op_fa_ptr rfl rfl rfl fl77_0 (by exact sz3) (by decide) rfl) ?_)
    (refine aqR (op_load_ptr1 rfl rfl rfl rfl ag3 rfl rfl) ?_)
    refine aqP (op_move rfl rfl) ?_
    refine aqP (op_move rfl rfl) ?_
    (refine aqP (op_subi rfl rfl rfl (by omega)) ?_)
    (refine aqP (op_ia_ro (i - 1) rfl (.inl rfl) rfl Try.underlying23 (by omega) (get_mapD (by omega)) (by exact sz77) (bl rfl)) ?_)
    (refine aqP (op_fa_rop rfl rfl fl77_0 (by exact sz3) (by decide) (bl rfl) rfl) ?_)
    (refine aqR (op_load_rop1 rfl rfl ag3) ?_)
    refine aqP (op_leq rfl rfl rfl) ?_
    (refine aqSeg rfl rfl rfl ?_; repeat (first | exact fun _ _ => rfl | refine upd_out rfl ?_))
   simp only [nA, ↓reduceIte]
   refine AQ.nil ?_
   (refine hK _ ?_; clear hK K; (skip))
   refine AW.cond rfl rfl rfl (fun hc => ?_) (fun hc => ?_)
   ·
    (try simp only [hcS] at hc); have hc4 := hc
    (refine AW.seq_k ?_; intro K hK)
    refine AW.region ?_
    refine awP (op_assign rfl rfl) ?_
    refine AWL.nil ?_
    (refine hK _ ?_; clear hK K; (simp only [nA, Nat.reduceBEq, Nat.reduceEqDiff, ↓reduceIte, Nat.reduceAdd, Nat.reduceSub]))
    skip
    refine AW.ret ?_; (simp only [thenE, inBlk, Nat.reduceEqDiff, ↓reduceIte]); rw [if_pos (by rw [prevBad_eq]; simpa using hc)] at hR; rw [← hR]; exact RQ.of0 rfl (.tmp (bl rfl) rfl rfl .nil)
   (try simp only [hcS] at hc); have hc4 := hc; rw [if_neg (by rw [prevBad_eq]; simp only [Bool.and_eq_true, decide_eq_true_eq]; omega)] at hR
   refine AW.skip ?_
   (refine hK _ ?_; clear hK K; (skip))
   (refine AW.seq_k ?_; intro K hK)
   (refine AW.seq_k ?_; intro K hK)
   refine AW.region ?_
   (refine awP (op_fa_ptr rfl rfl rfl fl77_1 (by exact sz73) (by decide) rfl) ?_)
   (refine awR (op_load_ptr rfl rfl rfl rfl ag73 sz73 (bl rfl) rfl) ?_)
   (refine awP (op_fa_ptr rfl rfl rfl fl77_5 (by exact sz3) (by decide) rfl) ?_)
   (refine awR (op_load_ptr1 rfl rfl rfl rfl ag3 rfl rfl) ?_)
   refine awP (op_build2 (xs := [_, _, _, _, _]) rfl pl120 ze120 [(0, [_, _, _, _]), (1, [_])] rfl rfl rfl) ?_
   refine awJ (op_alloc rfl ze120 rfl) ?_; (simp only [nA, Nat.reduceBEq, Nat.reduceEqDiff, ↓reduceIte])
   refine awJ (op_store rfl rfl rfl rfl rfl rfl sz120 rfl (bl rfl) rfl) ?_; (simp only [nA, Nat.reduceBEq, Nat.reduceEqDiff, ↓reduceIte])
   refine AWL.nil ?_
   (refine hK _ ?_; clear hK K; (skip))
   (refine AW.seq_k ?_; intro K hK)
   refine AW.region ?_
   (refine awP (op_fa_ptr rfl rfl rfl fl77_5 (by exact sz3) (by decide) rfl) ?_)
   (refine awR (op_load_ptr1 rfl rfl rfl rfl ag3 rfl rfl) ?_)
   (refine awP (op_neq rfl rfl rfl) ?_)
   refine AWL.nil ?_
   (refine hK _ ?_; clear hK K; (simp only [nA, Nat.reduceBEq, Nat.reduceEqDiff, ↓reduceIte, Nat.reduceAdd, Nat.reduceSub]))
   refine AW.cond rfl rfl rfl (fun hc => ?_) (fun hc => ?_)
   ·
    (try simp only [hcS] at hc); have hc5 := hc
    (refine AW.seq_k ?_; intro K hK)
    (refine AW.seq_k ?_; intro K hK)
    refine AW.region ?_
    refine awP (op_move rfl rfl) ?_
    (refine awR (op_load_ptr rfl rfl rfl rfl ag120 sz120 (bl rfl) rfl) ?_)
    refine awR (op_lookup (b := decide (spotOf c ∈ sp.map spotOf)) (ks := sp.map spV) (xs := [.string c.flight.carrier, .int .i64 c.flight.number, .string c.flight.suffix, .int .i64 c.flight.day, .int .i64 c.position]) rfl rfl rfl rfl Try.underlying117 zf4 (key120 hfr.1 hfr.2.1 hfr.2.2.1 hfr.2.2.2 (wf64 (by omega))) spV_mem) ?_; (simp only [nA, Nat.reduceEqDiff, ↓reduceIte])
    refine AWL.nil ?_
    (refine hK _ ?_; clear hK K; (skip))
    refine AW.cond rfl rfl rfl (fun hc => ?_) (fun hc => ?_)
    ·
     (try simp only [hcS] at hc); have hc6 := hc
     (refine AW.seq_k ?_; intro K hK)
     refine AW.region ?_
     refine awP (op_assign rfl rfl) ?_
     refine AWL.nil ?_
     (refine hK _ ?_; clear hK K; (simp only [nA, Nat.reduceBEq, Nat.reduceEqDiff, ↓reduceIte, Nat.reduceAdd, Nat.reduceSub]))
     skip
     refine AW.ret ?_; (simp only [thenE, inBlk, Nat.reduceEqDiff, ↓reduceIte]); rw [if_pos ⟨hc5, by simpa using hc⟩] at hR; rw [← hR]; exact RQ.of0 rfl (.tmp (bl rfl) rfl rfl .nil)
    (try simp only [hcS] at hc); have hc6 := hc; rw [if_neg (fun h => absurd h.2 (by simpa using hc6)), if_pos hc5] at hR
    refine AW.skip ?_
    (refine hK _ ?_; clear hK K; (skip))
    refine AW.region ?_
    refine awP (op_move rfl rfl) ?_
    (refine awR (op_load_ptr rfl rfl rfl rfl ag120 sz120 (bl rfl) rfl) ?_)
    refine awJ (op_mapUpdate (ks := sp.map spV) (xs := [.string c.flight.carrier, .int .i64 c.flight.number, .string c.flight.suffix, .int .i64 c.flight.day, .int .i64 c.position]) rfl rfl rfl rfl rfl Try.underlying117 (key120 hfr.1 hfr.2.1 hfr.2.2.1 hfr.2.2.2 (wf64 (by omega))) (by simp [maxLen]; omega)) ?_; (simp only [nA, Nat.reduceEqDiff, ↓reduceIte])
    refine AWL.nil ?_
    (refine hK _ ?_; clear hK K; (skip))
    (refine AW.seq_k ?_; intro K hK)
    refine AW.region ?_
    (refine awP (op_fa_ptr rfl rfl rfl fl77_7 (by exact sz53) (by decide) rfl) ?_)
    (refine awR (op_load_ptr1 rfl rfl rfl rfl ag53 rfl rfl) ?_)
    (refine awP (op_len_ro rfl rfl Try.underlying53 (by exact .inr (.inl ⟨_, rfl, rfl⟩))) ?_)
    refine awP (op_move rfl rfl) ?_
    refine AWL.nil ?_
    (refine hK _ ?_; clear hK K; (simp only [nA, Nat.reduceBEq, Nat.reduceEqDiff, ↓reduceIte, Nat.reduceAdd, Nat.reduceSub]))
    refine AW.block ?_
    refine AW.loopI (fun (q : Nat × List Plate × Nat) => [(0, .ro (xs.map Container.av)), (3, .mp 0 1), (4, .mp 1 2), (16, .ro (xs.map Container.av)), (17, .v (.int .i64 (xs.length : Nat))), (18, .v (.int .i64 (i : Nat))), (55, .ro (c.pieces.map Piece.av)), (56, .v (.int .i64 (c.pieces.length : Nat))), (57, .v (.int .i64 (q.1 : Nat)))]) (fun q => ⟨[(1, .om 117 (((c :: sp).map spV))), (2, .om 118 (q.2.1.map plV)), (e, .own 77 [c.av]), (e + 1, .own 120 [[.v (.string c.flight.carrier), .v (.int .i64 c.flight.number), .v (.string c.flight.suffix), .v (.int .i64 c.flight.day), .v (.int .i64 c.position)]])], q.2.2⟩) (fun q => q.1 ≤ c.pieces.length ∧ q.2.1.length ≤ 60 * i + q.1 ∧ chkP (c.pieces.drop q.1) q.2.1 = chkP c.pieces pl) (fun q => c.pieces.length - q.1) (0, pl, _) ⟨by simp, by simp; omega, rfl⟩ ⟨rfl, rfl, rfl, rfl, rfl, rfl, rfl, rfl, rfl, trivial⟩ rfl ?_; rintro ⟨j, pl2, e2⟩ ρ hJ; simp only at hJ; simp only [updL]; (simp only [nA, Nat.reduceBEq, Nat.reduceEqDiff, ↓reduceIte, Nat.reduceAdd, Nat.reduceSub])
    (refine AW.seq_k ?_; intro K hK)
    refine AW.region ?_
    refine awP (op_lss rfl rfl rfl) ?_
    refine AWL.nil ?_
    (refine hK _ ?_; clear hK K; (simp only [nA, Nat.reduceBEq, Nat.reduceEqDiff, ↓reduceIte, Nat.reduceAdd, Nat.reduceSub]))
    (refine AW.seq_k ?_; intro K hK)
    refine AW.cond rfl rfl rfl (fun hc => ?_) (fun hc => ?_)
    ·
     (try simp only [hcS] at hc); have hc7 := hc; have hjl : j < c.pieces.length := (by omega); obtain ⟨p, hpj⟩ : ∃ p, c.pieces[j]? = some p := ⟨c.pieces[j], List.getElem?_eq_getElem hjl⟩; have hP := hJ.2.2; rw [drop_cons hpj, chkP_cons] at hP; have hpi := piB_inv (hv.2.2.1 p (List.mem_of_getElem? hpj)); have hpr := pl_range hpi.1
     refine AW.skip ?_
     (refine hK _ ?_; clear hK K; (skip))
     (refine AW.seq_k ?_; intro K hK)
     refine AW.block ?_
     (refine AW.seq_k ?_; intro K hK)
     refine AW.region ?_
     (refine awP (op_ia_ro j rfl (.inl rfl) rfl Try.underlying53 rfl (get_of hpj) (by exact sz31) (bl rfl)) ?_)
     (refine awR (op_load_rop rfl rfl ag31 sz31 (bl rfl) (by decide) rfl) ?_)
     refine awJ (op_alloc rfl ze31 rfl) ?_; (simp only [nA, Nat.reduceBEq, Nat.reduceEqDiff, ↓reduceIte])
     refine awJ (op_store rfl rfl rfl rfl rfl rfl sz31 rfl (bl rfl) rfl) ?_; (simp only [nA, Nat.reduceBEq, Nat.reduceEqDiff, ↓reduceIte])
     refine AWL.nil ?_
     (refine hK _ ?_; clear hK K; (skip))
     (refine AW.seq_k ?_; intro K hK)
     (refine AW.seq_k ?_; intro K hK)
     refine AW.region ?_
     refine awP (op_move rfl rfl) ?_
     (refine awP (op_fa_ptr rfl rfl rfl fl31_0 (by exact sz29) (by decide) rfl) ?_)
     (refine awR (op_load_ptr rfl rfl rfl rfl ag29 sz29 (bl rfl) rfl) ?_)
     refine awR (op_lookup (b := decide (p.plate ∈ pl2)) (ks := pl2.map plV) (xs := [.int .i64 p.plate.lead, .int .i64 p.plate.airline, .int .i64 p.plate.serial]) rfl rfl rfl rfl Try.underlying118 zf4 (key29 hpr.1 hpr.2.1 hpr.2.2) plV_mem) ?_; (simp only [nA, ↓reduceIte])
     refine AWL.nil ?_
     (refine hK _ ?_; clear hK K; (skip))
     refine AW.cond rfl rfl rfl (fun hc => ?_) (fun hc => ?_)
     ·
      (try simp only [hcS] at hc); have hc8 := hc
      (refine AW.seq_k ?_; intro K hK)
      refine AW.region ?_
      refine awP (op_assign rfl rfl) ?_
      refine AWL.nil ?_
      (refine hK _ ?_; clear hK K; (simp only [nA, Nat.reduceBEq, Nat.reduceEqDiff, ↓reduceIte, Nat.reduceAdd, Nat.reduceSub]))
      skip
      refine AW.ret ?_; (simp only [thenE, inBlk, Nat.reduceEqDiff, ↓reduceIte]); rw [if_pos (by simpa using hc)] at hP; rw [← hP] at hR; rw [← hR]; exact RQ.of0 rfl (.tmp (bl rfl) rfl rfl .nil)
     (try simp only [hcS] at hc); have hc8 := hc; rw [if_neg (by simpa using hc8)] at hP
     refine AW.skip ?_
     (refine hK _ ?_; clear hK K; (skip))
     refine AW.region ?_
     refine awP (op_move rfl rfl) ?_
     (refine awP (op_fa_ptr rfl rfl rfl fl31_0 (by exact sz29) (by decide) rfl) ?_)
     (refine awR (op_load_ptr rfl rfl rfl rfl ag29 sz29 (bl rfl) rfl) ?_)
     refine awJ (op_mapUpdate (ks := pl2.map plV) (xs := [.int .i64 p.plate.lead, .int .i64 p.plate.airline, .int .i64 p.plate.serial]) rfl rfl rfl rfl rfl Try.underlying118 (key29 hpr.1 hpr.2.1 hpr.2.2) (by simp [maxLen]; omega)) ?_; (simp only [nA, ↓reduceIte])
     refine AWL.nil ?_
     simp only [thenE, inBlk, Nat.reduceEqDiff, ↓reduceIte]
     (refine hK _ ?_; clear hK K; (skip))
     refine AW.region ?_
     (refine awP (op_addi rfl rfl rfl (by omega)) ?_)
     refine awP (op_move rfl rfl) ?_
     refine AWL.gh (Gh.drop 4) ?_; (simp only [nA])
     refine AWL.nil ?_
     refine ⟨(j + 1, p.plate :: pl2, _), ⟨by dsimp only; omega, by simp; omega, hP⟩, by dsimp only; omega, ⟨rfl, rfl, rfl, rfl, rfl, rfl, rfl, rfl, rfl, trivial⟩, (by rfl), (by rfl)⟩
    (try simp only [hcS] at hc); have hc7 := hc; obtain rfl : j = c.pieces.length := (by omega); have hP := hJ.2.2; rw [List.drop_length, chkP_nil] at hP; rw [← hP] at hR; simp only at hR
    refine AW.exit ?_; (simp only [thenE, inBlk, Nat.reduceEqDiff, ↓reduceIte])
    clear hK K
    (refine hK _ ?_; clear hK K; (skip))
    refine AW.region ?_
    (refine awP (op_addi rfl rfl rfl (by omega)) ?_)
    refine awP (op_move rfl rfl) ?_
    refine AWL.gh (Gh.drop 2) ?_; (simp only [nA])
    refine AWL.nil ?_
    refine ⟨(i + 1, c :: sp, pl2, _), ⟨by dsimp only; omega, by simp; omega, by dsimp only; omega, by dsimp only; rw [prevN_succ hci]; exact hR⟩, by dsimp only; omega, ⟨rfl, rfl, rfl, rfl, rfl, rfl, trivial⟩, (by rfl), (by rfl)⟩
   (try simp only [hcS] at hc); have hc5 := hc; rw [if_neg (fun h => h.1 (by simpa using hc5)), if_neg (by simpa using hc5)] at hR
   refine AW.skip ?_
   (refine hK _ ?_; clear hK K; (skip))
   (refine AW.seq_k ?_; intro K hK)
   refine AW.region ?_
   (refine awP (op_fa_ptr rfl rfl rfl fl77_7 (by exact sz53) (by decide) rfl) ?_)
   (refine awR (op_load_ptr1 rfl rfl rfl rfl ag53 rfl rfl) ?_)
   (refine awP (op_len_ro rfl rfl Try.underlying53 (by exact .inr (.inl ⟨_, rfl, rfl⟩))) ?_)
   refine awP (op_move rfl rfl) ?_
   refine AWL.nil ?_
   (refine hK _ ?_; clear hK K; (simp only [nA, Nat.reduceBEq, Nat.reduceEqDiff, ↓reduceIte, Nat.reduceAdd, Nat.reduceSub]))
   refine AW.block ?_
   refine AW.loopI (fun (q : Nat × List Plate × Nat) => [(0, .ro (xs.map Container.av)), (3, .mp 0 1), (4, .mp 1 2), (16, .ro (xs.map Container.av)), (17, .v (.int .i64 (xs.length : Nat))), (18, .v (.int .i64 (i : Nat))), (55, .ro (c.pieces.map Piece.av)), (56, .v (.int .i64 (c.pieces.length : Nat))), (57, .v (.int .i64 (q.1 : Nat)))]) (fun q => ⟨[(1, .om 117 (sp.map spV)), (2, .om 118 (q.2.1.map plV)), (e, .own 77 [c.av]), (e + 1, .own 120 [[.v (.string c.flight.carrier), .v (.int .i64 c.flight.number), .v (.string c.flight.suffix), .v (.int .i64 c.flight.day), .v (.int .i64 c.position)]])], q.2.2⟩) (fun q => q.1 ≤ c.pieces.length ∧ q.2.1.length ≤ 60 * i + q.1 ∧ chkP (c.pieces.drop q.1) q.2.1 = chkP c.pieces pl) (fun q => c.pieces.length - q.1) (0, pl, _) ⟨by simp, by simp; omega, rfl⟩ ⟨rfl, rfl, rfl, rfl, rfl, rfl, rfl, rfl, rfl, trivial⟩ rfl ?_; rintro ⟨j, pl2, e2⟩ ρ hJ; simp only at hJ; simp only [updL]
   (refine AW.seq_k ?_; intro K hK)
   refine AW.region ?_
   refine awP (op_lss rfl rfl rfl) ?_
   refine AWL.nil ?_
   (refine hK _ ?_; clear hK K; (simp only [nA, Nat.reduceBEq, Nat.reduceEqDiff, ↓reduceIte, Nat.reduceAdd, Nat.reduceSub]))
   (refine AW.seq_k ?_; intro K hK)
   refine AW.cond rfl rfl rfl (fun hc => ?_) (fun hc => ?_)
   ·
    (try simp only [hcS] at hc); have hc9 := hc; have hjl : j < c.pieces.length := (by omega); obtain ⟨p, hpj⟩ : ∃ p, c.pieces[j]? = some p := ⟨c.pieces[j], List.getElem?_eq_getElem hjl⟩; have hP := hJ.2.2; rw [drop_cons hpj, chkP_cons] at hP; have hpi := piB_inv (hv.2.2.1 p (List.mem_of_getElem? hpj)); have hpr := pl_range hpi.1
    refine AW.skip ?_
    (refine hK _ ?_; clear hK K; (skip))
    (refine AW.seq_k ?_; intro K hK)
    refine AW.block ?_
    (refine AW.seq_k ?_; intro K hK)
    refine AW.region ?_
    (refine awP (op_ia_ro j rfl (.inl rfl) rfl Try.underlying53 rfl (get_of hpj) (by exact sz31) (bl rfl)) ?_)
    (refine awR (op_load_rop rfl rfl ag31 sz31 (bl rfl) (by decide) rfl) ?_)
    refine awJ (op_alloc rfl ze31 rfl) ?_; (simp only [nA, Nat.reduceBEq, Nat.reduceEqDiff, ↓reduceIte])
    refine awJ (op_store rfl rfl rfl rfl rfl rfl sz31 rfl (bl rfl) rfl) ?_; (simp only [nA, Nat.reduceBEq, Nat.reduceEqDiff, ↓reduceIte])
    refine AWL.nil ?_
    (refine hK _ ?_; clear hK K; (skip))
    (refine AW.seq_k ?_; intro K hK)
    (refine AW.seq_k ?_; intro K hK)
    refine AW.region ?_
    refine awP (op_move rfl rfl) ?_
    (refine awP (op_fa_ptr rfl rfl rfl fl31_0 (by exact sz29) (by decide) rfl) ?_)
    (refine awR (op_load_ptr rfl rfl rfl rfl ag29 sz29 (bl rfl) rfl) ?_)
    refine awR (op_lookup (b := decide (p.plate ∈ pl2)) (ks := pl2.map plV) (xs := [.int .i64 p.plate.lead, .int .i64 p.plate.airline, .int .i64 p.plate.serial]) rfl rfl rfl rfl Try.underlying118 zf4 (key29 hpr.1 hpr.2.1 hpr.2.2) plV_mem) ?_; (simp only [nA, ↓reduceIte])
    refine AWL.nil ?_
    (refine hK _ ?_; clear hK K; (skip))
    refine AW.cond rfl rfl rfl (fun hc => ?_) (fun hc => ?_)
    ·
     (try simp only [hcS] at hc); have hc10 := hc
     (refine AW.seq_k ?_; intro K hK)
     refine AW.region ?_
     refine awP (op_assign rfl rfl) ?_
     refine AWL.nil ?_
     (refine hK _ ?_; clear hK K; (simp only [nA, Nat.reduceBEq, Nat.reduceEqDiff, ↓reduceIte, Nat.reduceAdd, Nat.reduceSub]))
     skip
     refine AW.ret ?_; (simp only [thenE, inBlk, Nat.reduceEqDiff, ↓reduceIte]); rw [if_pos (by simpa using hc)] at hP; rw [← hP] at hR; rw [← hR]; exact RQ.of0 rfl (.tmp (bl rfl) rfl rfl .nil)
    (try simp only [hcS] at hc); have hc10 := hc; rw [if_neg (by simpa using hc10)] at hP
    refine AW.skip ?_
    (refine hK _ ?_; clear hK K; (skip))
    refine AW.region ?_
    refine awP (op_move rfl rfl) ?_
    (refine awP (op_fa_ptr rfl rfl rfl fl31_0 (by exact sz29) (by decide) rfl) ?_)
    (refine awR (op_load_ptr rfl rfl rfl rfl ag29 sz29 (bl rfl) rfl) ?_)
    refine awJ (op_mapUpdate (ks := pl2.map plV) (xs := [.int .i64 p.plate.lead, .int .i64 p.plate.airline, .int .i64 p.plate.serial]) rfl rfl rfl rfl rfl Try.underlying118 (key29 hpr.1 hpr.2.1 hpr.2.2) (by simp [maxLen]; omega)) ?_; (simp only [nA, ↓reduceIte])
    refine AWL.nil ?_
    simp only [thenE, inBlk, Nat.reduceEqDiff, ↓reduceIte]
    (refine hK _ ?_; clear hK K; (skip))
    refine AW.region ?_
    (refine awP (op_addi rfl rfl rfl (by omega)) ?_)
    refine awP (op_move rfl rfl) ?_
    refine AWL.gh (Gh.drop 4) ?_; (simp only [nA])
    refine AWL.nil ?_
    refine ⟨(j + 1, p.plate :: pl2, _), ⟨by dsimp only; omega, by simp; omega, hP⟩, by dsimp only; omega, ⟨rfl, rfl, rfl, rfl, rfl, rfl, rfl, rfl, rfl, trivial⟩, (by rfl), (by rfl)⟩
   (try simp only [hcS] at hc); have hc9 := hc; obtain rfl : j = c.pieces.length := (by omega); have hP := hJ.2.2; rw [List.drop_length, chkP_nil] at hP; rw [← hP] at hR; simp only at hR
   refine AW.exit ?_; (simp only [thenE, inBlk, Nat.reduceEqDiff, ↓reduceIte])
   clear hK K
   (refine hK _ ?_; clear hK K; (skip))
   refine AW.region ?_
   (refine awP (op_addi rfl rfl rfl (by omega)) ?_)
   refine awP (op_move rfl rfl) ?_
   refine AWL.gh (Gh.drop 2) ?_; (simp only [nA])
   refine AWL.nil ?_
   refine ⟨(i + 1, sp, pl2, _), ⟨by dsimp only; omega, by dsimp only; omega, by dsimp only; omega, by dsimp only; rw [prevN_succ hci]; exact hR⟩, by dsimp only; omega, ⟨rfl, rfl, rfl, rfl, rfl, rfl, trivial⟩, (by rfl), (by rfl)⟩
  (try simp only [hcS] at hc); have hc2 := hc; obtain rfl : i = xs.length := (by omega); have hR := hI.2.2.2; rw [List.drop_length] at hR; unfold chk at hR
  refine AW.exit ?_; (simp only [thenE, inBlk, Nat.reduceEqDiff, ↓reduceIte])
  clear hK K
  (refine hK _ ?_; clear hK K; (skip))
  (refine AW.seq_k ?_; intro K hK)
  refine AW.region ?_
  refine awP (op_assign rfl rfl) ?_
  refine AWL.nil ?_
  (refine hK _ ?_; clear hK K; (simp only [nA, Nat.reduceBEq, Nat.reduceEqDiff, ↓reduceIte, Nat.reduceAdd, Nat.reduceSub]))
  skip
  refine AW.ret ?_; rw [← hR]; exact RQ.of0 rfl (.tmp (bl rfl) rfl rfl .nil)
def findL (xs : List Container) (p : Plate) : Int × Bool := match xs.find? fun c => hasB c.pieces p with
  | some c => (c.number, true)
  | none => (0, false)
theorem find_yes {xs : List Container} {p : Plate} {i : Nat} {c : Container} (hc : xs[i]? = some c) (h0 : ∀ k (h : k < xs.length), k < i → hasB xs[k].pieces p = false) (h1 : hasB c.pieces p = true) : findL xs p = (c.number, true) := by
  unfold findL
  obtain ⟨hi, rfl⟩ := List.getElem?_eq_some_iff.1 hc
  have e : xs = xs.take i ++ xs[i] :: xs.drop (i + 1) := by rw [← List.drop_eq_getElem_cons hi, List.take_append_drop]
  have : xs.find? (fun c => hasB c.pieces p) = some xs[i] := by
    conv => lhs; rw [e]
    rw [List.find?_append, List.find?_eq_none.2 (fun x hx => ?_), List.find?_cons_of_pos (by simpa using h1)]
    · rfl
    obtain ⟨k, hk, rfl⟩ := List.getElem_of_mem hx
    simp at hk
    have := h0 k (by omega) (by omega)
    simpa using this
  rw [this]
theorem find_none {xs : List Container} {p : Plate} (h0 : ∀ k (h : k < xs.length), hasB xs[k].pieces p = false) : findL xs p = (0, false) := by
  unfold findL
  rw [List.find?_eq_none.2 (fun x hx => ?_)]
  obtain ⟨k, hk, rfl⟩ := List.getElem_of_mem hx
  simpa using h0 k hk
end Go.Proofs.Ytdnofpggdddimaa
namespace Go.Proofs.Ytdnofpggdddimaa
open Go.RowKit
set_option linter.unusedSimpArgs false
set_option linter.unusedVariables false
set_option maxRecDepth 100000
theorem C102 {c : UInt8} : Fn Try.prog 102 [] [.v (.int .u8 c.toNat)] [.v (.bool (upB c))] [] := by
  refine Spec.body Try.func102 rfl Try.ntmps102 (by simp) rfl ?_; intro S0 own0 v0 w0
  (refine AW.seq_k ?_; intro K hK)
  refine AW.region ?_
  refine awP (op_assign rfl rfl) ?_
  refine AWL.nil ?_
  (refine hK _ ?_; clear hK K; (simp only [nA, Nat.reduceBEq, Nat.reduceEqDiff, ↓reduceIte, Nat.reduceAdd, Nat.reduceSub]))
  (refine AW.seq_k ?_; intro K hK)
  refine AW.region (AWL.quiet ?_)
  refine aqP (op_move rfl rfl) ?_
  refine aqP (op_geq rfl rfl rfl) ?_
  refine aqP (op_move rfl rfl) ?_
  refine' aqAnd' [_, _] [6,7] rfl rfl rfl rfl rfl rfl rfl rfl rfl rfl rfl rfl (fun hb => ?_) ?_; rotate_left
  ·
   (try simp only [hcS] at hb)
   refine aqP (op_move rfl rfl) ?_
   refine aqP (op_leq rfl rfl rfl) ?_
   (refine aqSeg rfl rfl rfl ?_; repeat (first | exact fun _ _ => rfl | refine upd_out rfl ?_))
  simp only [nA, ↓reduceIte]
  refine aqP (op_assign rfl rfl) ?_
  refine AQ.nil ?_
  (refine hK _ ?_; clear hK K; (simp only [nA]))
  skip
  refine AW.ret ?_; exact RQ.of0 rfl (.tmp (bl rfl) rfl rfl .nil)
theorem C103 {c : UInt8} : Fn Try.prog 103 [] [.v (.int .u8 c.toNat)] [.v (.bool (dgB c))] [] := by
  refine Spec.body Try.func103 rfl Try.ntmps103 (by simp) rfl ?_; intro S0 own0 v0 w0
  (refine AW.seq_k ?_; intro K hK)
  refine AW.region ?_
  refine awP (op_assign rfl rfl) ?_
  refine AWL.nil ?_
  (refine hK _ ?_; clear hK K; (simp only [nA, Nat.reduceBEq, Nat.reduceEqDiff, ↓reduceIte, Nat.reduceAdd, Nat.reduceSub]))
  (refine AW.seq_k ?_; intro K hK)
  refine AW.region (AWL.quiet ?_)
  refine aqP (op_move rfl rfl) ?_
  refine aqP (op_geq rfl rfl rfl) ?_
  refine aqP (op_move rfl rfl) ?_
  refine' aqAnd' [_, _] [6,7] rfl rfl rfl rfl rfl rfl rfl rfl rfl rfl rfl rfl (fun hb => ?_) ?_; rotate_left
  ·
   (try simp only [hcS] at hb)
   refine aqP (op_move rfl rfl) ?_
   refine aqP (op_leq rfl rfl rfl) ?_
   (refine aqSeg rfl rfl rfl ?_; repeat (first | exact fun _ _ => rfl | refine upd_out rfl ?_))
  simp only [nA, ↓reduceIte]
  refine aqP (op_assign rfl rfl) ?_
  refine AQ.nil ?_
  (refine hK _ ?_; clear hK K; (simp only [nA]))
  skip
  refine AW.ret ?_; exact RQ.of0 rfl (.tmp (bl rfl) rfl rfl .nil)
def sufR (s : ByteArray) : Bool := (s.toList == (⟨#[]⟩ : ByteArray).toList) || (decide ((s.size : Int) = 1) && upB (chr s 0))
theorem C97r {s : ByteArray} : Fn Try.prog 97 [] [.v (.string s)] [.v (.bool (sufR s))] [] := by
  refine Spec.body Try.func97 rfl Try.ntmps97 (by simp) rfl ?_; intro S0 own0 v0 w0
  (refine AW.seq_k ?_; intro K hK)
  refine AW.region ?_
  refine awP (op_assign rfl rfl) ?_
  refine AWL.nil ?_
  (refine hK _ ?_; clear hK K; (simp only [nA, Nat.reduceBEq, Nat.reduceEqDiff, ↓reduceIte, Nat.reduceAdd, Nat.reduceSub]))
  (refine AW.seq_k ?_; intro K hK)
  refine AW.region (AWL.quiet ?_)
  refine aqP (op_move rfl rfl) ?_
  (refine aqP (op_seql rfl rfl rfl) ?_)
  refine aqP (op_move rfl rfl) ?_
  refine' aqOrN' [_, _, _, _, _, _, _, _] [6,7,8,9,10,11,12,13] rfl rfl rfl rfl rfl rfl rfl rfl rfl rfl rfl rfl (fun hb => ?_) ?_; rotate_left
  ·
   (try simp only [hcS] at hb)
   refine aqP (op_move rfl rfl) ?_
   (refine aqP (op_len_str rfl rfl Try.underlying9) ?_)
   (refine aqP (op_eql rfl rfl rfl) ?_)
   refine aqP (op_move rfl rfl) ?_
   refine' aqAnd' [_, _, _] [10,11,12] rfl rfl rfl rfl rfl rfl rfl rfl rfl rfl rfl rfl (fun hb => ?_) ?_; rotate_left
   ·
    (try simp only [hcS] at hb)
    refine aqP (op_move rfl rfl) ?_
    refine aqP (op_ix_str 0 rfl rfl rfl Try.underlying9 rfl (get_chr (s := s) (i := 0) (by omega))) ?_
    refine aqQ (op_callQ (b := true) rfl en102 (C102) (RL.cons (by exact View.same rfl) (RL.nil)) rfl) ?_; (simp only [nA, ↓reduceIte])
    (refine aqSeg rfl rfl rfl ?_; repeat (first | exact fun _ _ => rfl | refine upd_out rfl ?_))
   simp only [nA, ↓reduceIte]
   (refine aqSeg rfl rfl rfl ?_; repeat (first | exact fun _ _ => rfl | refine upd_out rfl ?_ | refine era_out rfl ?_))
  simp only [nA, ↓reduceIte]
  refine aqP (op_assign rfl rfl) ?_
  refine AQ.nil ?_
  (refine hK _ ?_; clear hK K; (simp only [nA]))
  skip
  refine AW.ret ?_; exact RQ.of0 rfl (.tmp (bl rfl) rfl rfl .nil)
def carR (s : ByteArray) : Bool := ((upB (chr s 0) || dgB (chr s 0)) && (upB (chr s 1) || dgB (chr s 1))) && (upB (chr s 0) || upB (chr s 1))
def car0 (s : ByteArray) : Bool := if (s.size : Int) ≠ 2 then false else carR s
theorem C96r {s : ByteArray} : Fn Try.prog 96 [] [.v (.string s)] [.v (.bool (car0 s))] [] := by
  refine Spec.body Try.func96 rfl Try.ntmps96 (by simp) rfl ?_; intro S0 own0 v0 w0
  (refine AW.seq_k ?_; intro K hK)
  refine AW.region ?_
  refine awP (op_assign rfl rfl) ?_
  refine AWL.nil ?_
  (refine hK _ ?_; clear hK K; (simp only [nA, Nat.reduceBEq, Nat.reduceEqDiff, ↓reduceIte, Nat.reduceAdd, Nat.reduceSub]))
  (refine AW.seq_k ?_; intro K hK)
  (refine AW.seq_k ?_; intro K hK)
  refine AW.region ?_
  refine awP (op_move rfl rfl) ?_
  (refine awP (op_len_str rfl rfl Try.underlying9) ?_)
  (refine awP (op_neq rfl rfl rfl) ?_)
  refine AWL.nil ?_
  (refine hK _ ?_; clear hK K; (simp only [nA, ↓reduceIte]))
  refine AW.cond rfl rfl rfl (fun hc => ?_) (fun hc => ?_)
  ·
   (try simp only [hcS] at hc); have hc1 := hc
   (refine AW.seq_k ?_; intro K hK)
   refine AW.region ?_
   refine awP (op_assign rfl rfl) ?_
   refine AWL.nil ?_
   (refine hK _ ?_; clear hK K; (simp only [nA, Nat.reduceBEq, Nat.reduceEqDiff, ↓reduceIte, Nat.reduceAdd, Nat.reduceSub]))
   skip
   refine AW.ret ?_; (simp only [thenE, inBlk, Nat.reduceEqDiff, ↓reduceIte]); rw [show car0 s = false by unfold car0; rw [if_pos (by omega)]]; exact RQ.of0 rfl (.tmp (bl rfl) rfl rfl .nil)
  (try simp only [hcS] at hc); have hc1 := hc
  refine AW.skip ?_
  (refine hK _ ?_; clear hK K; (skip))
  (refine AW.seq_k ?_; intro K hK)
  refine AW.quiet mix (by kernel_rfl) ?_
  refine aqP (op_move rfl rfl) ?_
  refine aqP (op_ix_str 0 rfl rfl rfl Try.underlying9 rfl (get_chr (s := s) (i := 0) (by omega))) ?_
  refine aqQ (op_callQ (b := true) rfl en102 (C102) (RL.cons (by exact View.same rfl) (RL.nil)) rfl) ?_; (simp only [nA, ↓reduceIte])
  refine aqP (op_move rfl rfl) ?_
  refine aqP (op_ix_str 1 rfl rfl rfl Try.underlying9 rfl (get_chr (s := s) (i := 1) (by omega))) ?_
  refine aqQ (op_callQ (b := true) rfl en102 (C102) (RL.cons (by exact View.same rfl) (RL.nil)) rfl) ?_; (simp only [nA, ↓reduceIte])
  refine aqP (op_assign rfl rfl) ?_
  refine aqP (op_assign rfl rfl) ?_
  refine AQ.nil ?_
  (refine hK _ ?_; clear hK K; (simp only [nA, ↓reduceIte]))
  (refine AW.seq_k ?_; intro K hK)
  refine AW.region (AWL.quiet ?_)
  refine aqP (op_move rfl rfl) ?_
  refine aqP (op_move rfl rfl) ?_
  refine' aqOr' [_, _, _] [16,17,18] rfl rfl rfl rfl rfl rfl rfl rfl rfl rfl rfl rfl (fun hb => ?_) ?_; rotate_left
  ·
   (try simp only [hcS] at hb)
   refine aqP (op_move rfl rfl) ?_
   refine aqP (op_ix_str 0 rfl rfl rfl Try.underlying9 rfl (get_chr (s := s) (i := 0) (by omega))) ?_
   refine aqQ (op_callQ (b := true) rfl en103 (C103) (RL.cons (by exact View.same rfl) (RL.nil)) rfl) ?_; (simp only [nA, ↓reduceIte])
   (refine aqSeg rfl rfl rfl ?_; repeat (first | exact fun _ _ => rfl | refine upd_out rfl ?_))
  simp only [nA, ↓reduceIte]
  refine aqP (op_move rfl rfl) ?_
  refine' aqAndN' [_, _, _, _, _, _] [21,22,23,24,25,26] rfl rfl rfl rfl rfl rfl rfl rfl rfl rfl rfl rfl (fun hb => ?_) ?_; rotate_left
  ·
   (try simp only [hcS] at hb)
   refine aqP (op_move rfl rfl) ?_
   refine aqP (op_move rfl rfl) ?_
   refine' aqOr' [_, _, _] [23,24,25] rfl rfl rfl rfl rfl rfl rfl rfl rfl rfl rfl rfl (fun hb => ?_) ?_; rotate_left
   ·
    (try simp only [hcS] at hb)
    refine aqP (op_move rfl rfl) ?_
    refine aqP (op_ix_str 1 rfl rfl rfl Try.underlying9 rfl (get_chr (s := s) (i := 1) (by omega))) ?_
    refine aqQ (op_callQ (b := true) rfl en103 (C103) (RL.cons (by exact View.same rfl) (RL.nil)) rfl) ?_; (simp only [nA, Nat.reduceEqDiff, ↓reduceIte])
    (refine aqSeg rfl rfl rfl ?_; repeat (first | exact fun _ _ => rfl | refine upd_out rfl ?_))
   simp only [nA, Nat.reduceEqDiff, ↓reduceIte]
   (refine aqSeg rfl rfl rfl ?_; repeat (first | exact fun _ _ => rfl | refine upd_out rfl ?_ | refine era_out rfl ?_))
  simp only [nA]
  refine aqP (op_move rfl rfl) ?_
  refine' aqAndN' [_, _, _, _] [29,30,31,32] rfl rfl rfl rfl rfl rfl rfl rfl rfl rfl rfl rfl (fun hb => ?_) ?_; rotate_left
  ·
   (try simp only [hcS] at hb)
   refine aqP (op_move rfl rfl) ?_
   refine aqP (op_move rfl rfl) ?_
   refine' aqOr' [_] [31] rfl rfl rfl rfl rfl rfl rfl rfl rfl rfl rfl rfl (fun hb => ?_) ?_; rotate_left
   ·
    (try simp only [hcS] at hb)
    refine aqP (op_move rfl rfl) ?_
    (refine aqSeg rfl rfl rfl ?_; repeat (first | exact fun _ _ => rfl | refine upd_out rfl ?_))
   simp only [nA, Nat.reduceEqDiff, ↓reduceIte]
   (refine aqSeg rfl rfl rfl ?_; repeat (first | exact fun _ _ => rfl | refine upd_out rfl ?_ | refine era_out rfl ?_))
  simp only [nA]
  refine aqP (op_assign rfl rfl) ?_
  refine AQ.nil ?_
  (refine hK _ ?_; clear hK K; (simp only [nA]))
  skip
  refine AW.ret ?_; rw [show car0 s = carR s by unfold car0; rw [if_neg (by omega)]]; exact RQ.of0 rfl (.tmp (bl rfl) rfl rfl .nil)
theorem bytes_eq (s : ByteArray) : s.toList = s.data.toList := by
  exact ByteArray.toList_eq s
theorem suf_eq (s : ByteArray) : sufR s = lettersB s 0 1 := by
  unfold sufR lettersB
  rw [bytes_eq, bytes_eq]
  have hs := size_len s
  rcases hd : s.data.toList with _ | ⟨a, _ | ⟨b, t⟩⟩
  · rw [hd] at hs
    simp at hs
    simp [← hs]
  · rw [hd] at hs
    simp at hs
    simp [← hs, chr, hd]
  rw [hd] at hs
  simp at hs
  have h1 : ¬ (s.size : Int) = 1 := by omega
  have h2 : ¬ (s.size : Int) ≤ 1 := by omega
  simp [h1, h2]
theorem car_eq (s : ByteArray) : car0 s = carB s := by
  unfold car0 carB
  have hs := size_len s
  by_cases h2 : s.size = 2
  · rw [if_neg (by omega)]
    rcases hd : s.data.toList with _ | ⟨a, _ | ⟨b, _ | ⟨d, t⟩⟩⟩ <;> rw [hd] at hs <;> simp at hs <;> try omega
    unfold carR chr
    rw [hd]
    simp [h2]
  rw [if_pos (by omega)]
  simp [h2]
theorem C97 {s : ByteArray} : Fn Try.prog 97 [] [.v (.string s)] [.v (.bool (lettersB s 0 1))] [] := by
  rw [← suf_eq]; exact C97r
theorem C96 {s : ByteArray} : Fn Try.prog 96 [] [.v (.string s)] [.v (.bool (carB s))] [] := by
  rw [← car_eq]; exact C96r
theorem C85 {f : Flight} : Fn Try.prog 85 [] [.agg f.av] [.v (.bool (flB f))] [] := by
  refine Spec.body Try.func85 rfl Try.ntmps85 (by simp) rfl ?_; intro S0 own0 v0 w0
  (refine AW.seq_k ?_; intro K hK)
  refine AW.region ?_
  refine awJ (op_box rfl rfl rfl sz73 rfl) ?_; (simp only [nA, Nat.reduceBEq, Nat.reduceEqDiff, ↓reduceIte])
  refine awP (op_assign rfl rfl) ?_
  refine AWL.nil ?_
  (refine hK _ ?_; clear hK K; (simp only [nA, Nat.reduceBEq, Nat.reduceEqDiff, ↓reduceIte, Nat.reduceAdd, Nat.reduceSub]))
  (refine AW.seq_k ?_; intro K hK)
  refine AW.region (AWL.quiet ?_)
  (refine aqP (op_fa_ptr rfl rfl rfl fl73_0 (by exact sz9) (by decide) rfl) ?_)
  (refine aqR (op_load_ptr1 rfl rfl rfl rfl ag9 rfl rfl) ?_)
  refine aqQ (op_callQ (b := true) rfl en96 (C96) (RL.cons (by exact View.same rfl) (RL.nil)) rfl) ?_; (simp only [nA, Nat.reduceBEq, Nat.reduceEqDiff, ↓reduceIte, Nat.reduceAdd, Nat.reduceSub])
  refine aqP (op_move rfl rfl) ?_
  refine' aqAnd' [_, _, _] [7,8,9] rfl rfl rfl rfl rfl rfl rfl rfl rfl rfl rfl rfl (fun hb => ?_) ?_; rotate_left
  ·
   (try simp only [hcS] at hb)
   (refine aqP (op_fa_ptr rfl rfl rfl fl73_1 (by exact sz3) (by decide) rfl) ?_)
   (refine aqR (op_load_ptr1 rfl rfl rfl rfl ag3 rfl rfl) ?_)
   refine aqP (op_geq rfl rfl rfl) ?_
   (refine aqSeg rfl rfl rfl ?_; repeat (first | exact fun _ _ => rfl | refine upd_out rfl ?_))
  simp only [nA]
  refine aqP (op_move rfl rfl) ?_
  refine' aqAnd' [_, _, _] [12,13,14] rfl rfl rfl rfl rfl rfl rfl rfl rfl rfl rfl rfl (fun hb => ?_) ?_; rotate_left
  ·
   (try simp only [hcS] at hb)
   (refine aqP (op_fa_ptr rfl rfl rfl fl73_1 (by exact sz3) (by decide) rfl) ?_)
   (refine aqR (op_load_ptr1 rfl rfl rfl rfl ag3 rfl rfl) ?_)
   refine aqP (op_leq rfl rfl rfl) ?_
   (refine aqSeg rfl rfl rfl ?_; repeat (first | exact fun _ _ => rfl | refine upd_out rfl ?_))
  simp only [nA]
  refine aqP (op_move rfl rfl) ?_
  refine' aqAnd' [_, _, _] [17,18,19] rfl rfl rfl rfl rfl rfl rfl rfl rfl rfl rfl rfl (fun hb => ?_) ?_; rotate_left
  ·
   (try simp only [hcS] at hb)
   (refine aqP (op_fa_ptr rfl rfl rfl fl73_2 (by exact sz9) (by decide) rfl) ?_)
   (refine aqR (op_load_ptr1 rfl rfl rfl rfl ag9 rfl rfl) ?_)
   refine aqQ (op_callQ (b := true) rfl en97 (C97) (RL.cons (by exact View.same rfl) (RL.nil)) rfl) ?_; (simp only [nA])
   (refine aqSeg rfl rfl rfl ?_; repeat (first | exact fun _ _ => rfl | refine upd_out rfl ?_))
  simp only [nA]
  refine aqP (op_move rfl rfl) ?_
  refine' aqAnd' [_, _, _] [22,23,24] rfl rfl rfl rfl rfl rfl rfl rfl rfl rfl rfl rfl (fun hb => ?_) ?_; rotate_left
  ·
   (try simp only [hcS] at hb)
   (refine aqP (op_fa_ptr rfl rfl rfl fl73_3 (by exact sz3) (by decide) rfl) ?_)
   (refine aqR (op_load_ptr1 rfl rfl rfl rfl ag3 rfl rfl) ?_)
   refine aqP (op_geq rfl rfl rfl) ?_
   (refine aqSeg rfl rfl rfl ?_; repeat (first | exact fun _ _ => rfl | refine upd_out rfl ?_))
  simp only [nA]
  refine aqP (op_move rfl rfl) ?_
  refine' aqAnd' [_, _, _] [27,28,29] rfl rfl rfl rfl rfl rfl rfl rfl rfl rfl rfl rfl (fun hb => ?_) ?_; rotate_left
  ·
   (try simp only [hcS] at hb)
   (refine aqP (op_fa_ptr rfl rfl rfl fl73_3 (by exact sz3) (by decide) rfl) ?_)
   (refine aqR (op_load_ptr1 rfl rfl rfl rfl ag3 rfl rfl) ?_)
   refine aqP (op_leq rfl rfl rfl) ?_
   (refine aqSeg rfl rfl rfl ?_; repeat (first | exact fun _ _ => rfl | refine upd_out rfl ?_))
  simp only [nA]
  refine aqP (op_assign rfl rfl) ?_
  refine AQ.nil ?_
  (refine hK _ ?_; clear hK K; (simp only [nA]))
  skip
  refine AW.ret ?_; exact RQ.of0 rfl (.tmp (bl rfl) rfl rfl .nil)
theorem C86 {a b : Int} : Fn Try.prog 86 [] [.v (.int .i64 a), .v (.int .i64 b)] [.v (.int .i64 (cmpI a b))] [] := by
  refine Spec.body Try.func86 rfl Try.ntmps86 (by simp) rfl ?_; intro S0 own0 v0 w0
  (refine AW.seq_k ?_; intro K hK)
  refine AW.region ?_
  refine awP (op_assign rfl rfl) ?_
  refine AWL.nil ?_
  (refine hK _ ?_; clear hK K; (simp only [nA, Nat.reduceBEq, Nat.reduceEqDiff, ↓reduceIte, Nat.reduceAdd, Nat.reduceSub]))
  (refine AW.seq_k ?_; intro K hK)
  (refine AW.seq_k ?_; intro K hK)
  refine AW.region ?_
  refine awP (op_move rfl rfl) ?_
  refine awP (op_move rfl rfl) ?_
  refine awP (op_lss rfl rfl rfl) ?_
  refine AWL.nil ?_
  (refine hK _ ?_; clear hK K; (simp only [nA, ↓reduceIte]))
  refine AW.cond rfl rfl rfl (fun hc => ?_) (fun hc => ?_)
  ·
   (try simp only [hcS] at hc); have hc1 := hc
   (refine AW.seq_k ?_; intro K hK)
   refine AW.region ?_
   refine awP (op_assign rfl rfl) ?_
   refine AWL.nil ?_
   (refine hK _ ?_; clear hK K; (simp only [nA, Nat.reduceBEq, Nat.reduceEqDiff, ↓reduceIte, Nat.reduceAdd, Nat.reduceSub]))
   skip
   refine AW.ret ?_; (simp only [thenE, inBlk, Nat.reduceEqDiff, ↓reduceIte]); rw [show cmpI a b = -1 by unfold cmpI; rw [if_pos (by omega)]]; exact RQ.of0 rfl (.tmp (bl rfl) rfl rfl .nil)
  (try simp only [hcS] at hc); have hc1 := hc
  refine AW.skip ?_
  (refine hK _ ?_; clear hK K; (skip))
  (refine AW.seq_k ?_; intro K hK)
  (refine AW.seq_k ?_; intro K hK)
  refine AW.region ?_
  refine awP (op_move rfl rfl) ?_
  refine awP (op_move rfl rfl) ?_
  refine awP (op_gtr rfl rfl rfl) ?_
  refine AWL.nil ?_
  (refine hK _ ?_; clear hK K; (simp only [nA, ↓reduceIte]))
  refine AW.cond rfl rfl rfl (fun hc => ?_) (fun hc => ?_)
  ·
   (try simp only [hcS] at hc); have hc2 := hc
   (refine AW.seq_k ?_; intro K hK)
   refine AW.region ?_
   refine awP (op_assign rfl rfl) ?_
   refine AWL.nil ?_
   (refine hK _ ?_; clear hK K; (simp only [nA, Nat.reduceBEq, Nat.reduceEqDiff, ↓reduceIte, Nat.reduceAdd, Nat.reduceSub]))
   skip
   refine AW.ret ?_; (simp only [thenE, inBlk, Nat.reduceEqDiff, ↓reduceIte]); rw [show cmpI a b = 1 by unfold cmpI; rw [if_neg (by omega), if_pos (by omega)]]; exact RQ.of0 rfl (.tmp (bl rfl) rfl rfl .nil)
  (try simp only [hcS] at hc); have hc2 := hc
  refine AW.skip ?_
  (refine hK _ ?_; clear hK K; (skip))
  (refine AW.seq_k ?_; intro K hK)
  refine AW.region ?_
  refine awP (op_assign rfl rfl) ?_
  refine AWL.nil ?_
  (refine hK _ ?_; clear hK K; (simp only [nA, Nat.reduceBEq, Nat.reduceEqDiff, ↓reduceIte, Nat.reduceAdd, Nat.reduceSub]))
  skip
  refine AW.ret ?_; rw [show cmpI a b = 0 by unfold cmpI; rw [if_neg (by omega), if_neg (by omega)]]; exact RQ.of0 rfl (.tmp (bl rfl) rfl rfl .nil)
theorem cmpP_1 {p q : Plate} (h : cmpI p.lead q.lead ≠ 0) : cmpP p q = cmpI p.lead q.lead := by unfold cmpP orL; simp [h]
theorem cmpP_2 {p q : Plate} (h0 : cmpI p.lead q.lead = 0) (h : cmpI p.airline q.airline ≠ 0) : cmpP p q = cmpI p.airline q.airline := by unfold cmpP orL; simp [h, h0]
theorem cmpP_3 {p q : Plate} (h0 : cmpI p.lead q.lead = 0) (h1 : cmpI p.airline q.airline = 0) : cmpP p q = cmpI p.serial q.serial := by
  unfold cmpP orL
  by_cases h : cmpI p.serial q.serial = 0 <;> simp [h, h0, h1]
theorem C68 {p q : Plate} : Fn Try.prog 68 [] [.agg p.av, .agg q.av] [.v (.int .i64 (cmpP p q))] [] := by
  refine Spec.body Try.func68 rfl Try.ntmps68 (by simp) rfl ?_; intro S0 own0 v0 w0
  (refine AW.seq_k ?_; intro K hK)
  refine AW.region ?_
  refine awJ (op_box rfl rfl rfl sz29 rfl) ?_; (simp only [nA, Nat.reduceBEq, Nat.reduceEqDiff, ↓reduceIte])
  refine awJ (op_box rfl rfl rfl sz29 rfl) ?_; (simp only [nA, Nat.reduceBEq, Nat.reduceEqDiff, ↓reduceIte])
  refine awP (op_assign rfl rfl) ?_
  refine AWL.nil ?_
  (refine hK _ ?_; clear hK K; (simp only [nA, Nat.reduceBEq, Nat.reduceEqDiff, ↓reduceIte, Nat.reduceAdd, Nat.reduceSub]))
  (refine AW.seq_k ?_; intro K hK)
  (refine AW.seq_k ?_; intro K hK)
  refine AW.region ?_
  (refine awP (op_fa_ptr rfl rfl rfl fl29_0 (by exact sz3) (by decide) rfl) ?_)
  (refine awR (op_load_ptr1 rfl rfl rfl rfl ag3 rfl rfl) ?_)
  (refine awP (op_fa_ptr rfl rfl rfl fl29_0 (by exact sz3) (by decide) rfl) ?_)
  (refine awR (op_load_ptr1 rfl rfl rfl rfl ag3 rfl rfl) ?_)
  refine awJ (OpQ.j (op_callQ (b := true) rfl en86 (C86 (a := p.lead) (b := q.lead)) (RL.cons (by exact View.same rfl) (RL.cons (by exact View.same rfl) (RL.nil))) rfl)) ?_; (simp only [nA, Nat.reduceBEq, Nat.reduceEqDiff, ↓reduceIte, Nat.reduceAdd, Nat.reduceSub])
  refine awP (op_assign rfl rfl) ?_
  refine AWL.nil ?_
  (refine hK _ ?_; clear hK K; (simp only [nA]))
  (refine AW.seq_k ?_; intro K hK)
  refine AW.region ?_
  refine awP (op_move rfl rfl) ?_
  (refine awP (op_neq rfl rfl rfl) ?_)
  refine AWL.nil ?_
  (refine hK _ ?_; clear hK K; (simp only [nA]))
  refine AW.cond rfl rfl rfl (fun hc => ?_) (fun hc => ?_)
  ·
   (try simp only [hcS] at hc); have hc1 := hc
   (refine AW.seq_k ?_; intro K hK)
   refine AW.region ?_
   refine awP (op_move rfl rfl) ?_
   refine awP (op_assign rfl rfl) ?_
   refine AWL.nil ?_
   (refine hK _ ?_; clear hK K; (simp only [nA, ↓reduceIte]))
   skip
   refine AW.ret ?_; (simp only [thenE, inBlk, Nat.reduceEqDiff, ↓reduceIte]); rw [cmpP_1 hc1]; exact RQ.of0 rfl (.tmp (bl rfl) rfl rfl .nil)
  (try simp only [hcS] at hc); have hc1 := hc
  refine AW.skip ?_
  (refine hK _ ?_; clear hK K; (skip))
  (refine AW.seq_k ?_; intro K hK)
  (refine AW.seq_k ?_; intro K hK)
  refine AW.region ?_
  (refine awP (op_fa_ptr rfl rfl rfl fl29_1 (by exact sz3) (by decide) rfl) ?_)
  (refine awR (op_load_ptr1 rfl rfl rfl rfl ag3 rfl rfl) ?_)
  (refine awP (op_fa_ptr rfl rfl rfl fl29_1 (by exact sz3) (by decide) rfl) ?_)
  (refine awR (op_load_ptr1 rfl rfl rfl rfl ag3 rfl rfl) ?_)
  refine awJ (OpQ.j (op_callQ (b := true) rfl en86 (C86 (a := p.airline) (b := q.airline)) (RL.cons (by exact View.same rfl) (RL.cons (by exact View.same rfl) (RL.nil))) rfl)) ?_; (simp only [nA, Nat.reduceBEq, Nat.reduceEqDiff, ↓reduceIte, Nat.reduceAdd, Nat.reduceSub])
  refine awP (op_assign rfl rfl) ?_
  refine AWL.nil ?_
  (refine hK _ ?_; clear hK K; (simp only [nA]))
  (refine AW.seq_k ?_; intro K hK)
  refine AW.region ?_
  refine awP (op_move rfl rfl) ?_
  (refine awP (op_neq rfl rfl rfl) ?_)
  refine AWL.nil ?_
  (refine hK _ ?_; clear hK K; (simp only [nA]))
  refine AW.cond rfl rfl rfl (fun hc => ?_) (fun hc => ?_)
  ·
   (try simp only [hcS] at hc); have hc2 := hc
   (refine AW.seq_k ?_; intro K hK)
   refine AW.region ?_
   refine awP (op_move rfl rfl) ?_
   refine awP (op_assign rfl rfl) ?_
   refine AWL.nil ?_
   (refine hK _ ?_; clear hK K; (simp only [nA, ↓reduceIte]))
   skip
   refine AW.ret ?_; (simp only [thenE, inBlk, Nat.reduceEqDiff, ↓reduceIte]); rw [cmpP_2 hc1 hc2]; exact RQ.of0 rfl (.tmp (bl rfl) rfl rfl .nil)
  (try simp only [hcS] at hc); have hc2 := hc
  refine AW.skip ?_
  (refine hK _ ?_; clear hK K; (skip))
  (refine AW.seq_k ?_; intro K hK)
  refine AW.region ?_
  (refine awP (op_fa_ptr rfl rfl rfl fl29_2 (by exact sz3) (by decide) rfl) ?_)
  (refine awR (op_load_ptr1 rfl rfl rfl rfl ag3 rfl rfl) ?_)
  (refine awP (op_fa_ptr rfl rfl rfl fl29_2 (by exact sz3) (by decide) rfl) ?_)
  (refine awR (op_load_ptr1 rfl rfl rfl rfl ag3 rfl rfl) ?_)
  refine awJ (OpQ.j (op_callQ (b := true) rfl en86 (C86 (a := p.serial) (b := q.serial)) (RL.cons (by exact View.same rfl) (RL.cons (by exact View.same rfl) (RL.nil))) rfl)) ?_; (simp only [nA, Nat.reduceBEq, Nat.reduceEqDiff, ↓reduceIte, Nat.reduceAdd, Nat.reduceSub])
  refine awP (op_assign rfl rfl) ?_
  refine AWL.nil ?_
  (refine hK _ ?_; clear hK K; (simp only [nA]))
  skip
  refine AW.ret ?_; rw [cmpP_3 hc1 hc2]; exact RQ.of0 rfl (.tmp (bl rfl) rfl rfl .nil)
def plR (p : Plate) : Bool := ((((decide (p.lead ≥ 0) && decide (p.lead ≤ 9)) && decide (p.airline ≥ 1)) && decide (p.airline ≤ 999)) && decide (p.serial ≥ 0)) && decide (p.serial ≤ 999999)
theorem plR_eq (p : Plate) : plR p = plB p := by
  unfold plR plB
  rw [show decide (p.serial ≤ 999999) = decide (p.serial < 1000000) from decide_eq_decide.2 (by omega)]
theorem C73r {p : Plate} : Fn Try.prog 73 [] [.agg p.av] [.v (.bool (plR p))] [] := by
  refine Spec.body Try.func73 rfl Try.ntmps73 (by simp) rfl ?_; intro S0 own0 v0 w0
  (refine AW.seq_k ?_; intro K hK)
  refine AW.region ?_
  refine awJ (op_box rfl rfl rfl sz29 rfl) ?_; (simp only [nA, Nat.reduceBEq, Nat.reduceEqDiff, ↓reduceIte])
  refine awP (op_assign rfl rfl) ?_
  refine AWL.nil ?_
  (refine hK _ ?_; clear hK K; (simp only [nA, Nat.reduceBEq, Nat.reduceEqDiff, ↓reduceIte, Nat.reduceAdd, Nat.reduceSub]))
  (refine AW.seq_k ?_; intro K hK)
  refine AW.region (AWL.quiet ?_)
  (refine aqP (op_fa_ptr rfl rfl rfl fl29_0 (by exact sz3) (by decide) rfl) ?_)
  (refine aqR (op_load_ptr1 rfl rfl rfl rfl ag3 rfl rfl) ?_)
  refine aqP (op_geq rfl rfl rfl) ?_
  refine aqP (op_move rfl rfl) ?_
  refine' aqAnd' [_, _, _] [7,8,9] rfl rfl rfl rfl rfl rfl rfl rfl rfl rfl rfl rfl (fun hb => ?_) ?_; rotate_left
  ·
   (try simp only [hcS] at hb)
   (refine aqP (op_fa_ptr rfl rfl rfl fl29_0 (by exact sz3) (by decide) rfl) ?_)
   (refine aqR (op_load_ptr1 rfl rfl rfl rfl ag3 rfl rfl) ?_)
   refine aqP (op_leq rfl rfl rfl) ?_
   (refine aqSeg rfl rfl rfl ?_; repeat (first | exact fun _ _ => rfl | refine upd_out rfl ?_))
  simp only [nA]
  refine aqP (op_move rfl rfl) ?_
  refine' aqAnd' [_, _, _] [12,13,14] rfl rfl rfl rfl rfl rfl rfl rfl rfl rfl rfl rfl (fun hb => ?_) ?_; rotate_left
  ·
   (try simp only [hcS] at hb)
   (refine aqP (op_fa_ptr rfl rfl rfl fl29_1 (by exact sz3) (by decide) rfl) ?_)
   (refine aqR (op_load_ptr1 rfl rfl rfl rfl ag3 rfl rfl) ?_)
   refine aqP (op_geq rfl rfl rfl) ?_
   (refine aqSeg rfl rfl rfl ?_; repeat (first | exact fun _ _ => rfl | refine upd_out rfl ?_))
  simp only [nA]
  refine aqP (op_move rfl rfl) ?_
  refine' aqAnd' [_, _, _] [17,18,19] rfl rfl rfl rfl rfl rfl rfl rfl rfl rfl rfl rfl (fun hb => ?_) ?_; rotate_left
  ·
   (try simp only [hcS] at hb)
   (refine aqP (op_fa_ptr rfl rfl rfl fl29_1 (by exact sz3) (by decide) rfl) ?_)
   (refine aqR (op_load_ptr1 rfl rfl rfl rfl ag3 rfl rfl) ?_)
   refine aqP (op_leq rfl rfl rfl) ?_
   (refine aqSeg rfl rfl rfl ?_; repeat (first | exact fun _ _ => rfl | refine upd_out rfl ?_))
  simp only [nA]
  refine aqP (op_move rfl rfl) ?_
  refine' aqAnd' [_, _, _] [22,23,24] rfl rfl rfl rfl rfl rfl rfl rfl rfl rfl rfl rfl (fun hb => ?_) ?_; rotate_left
  ·
   (try simp only [hcS] at hb)
   (refine aqP (op_fa_ptr rfl rfl rfl fl29_2 (by exact sz3) (by decide) rfl) ?_)
   (refine aqR (op_load_ptr1 rfl rfl rfl rfl ag3 rfl rfl) ?_)
   refine aqP (op_geq rfl rfl rfl) ?_
   (refine aqSeg rfl rfl rfl ?_; repeat (first | exact fun _ _ => rfl | refine upd_out rfl ?_))
  simp only [nA]
  refine aqP (op_move rfl rfl) ?_
  refine' aqAnd' [_, _, _] [27,28,29] rfl rfl rfl rfl rfl rfl rfl rfl rfl rfl rfl rfl (fun hb => ?_) ?_; rotate_left
  ·
   (try simp only [hcS] at hb)
   (refine aqP (op_fa_ptr rfl rfl rfl fl29_2 (by exact sz3) (by decide) rfl) ?_)
   (refine aqR (op_load_ptr1 rfl rfl rfl rfl ag3 rfl rfl) ?_)
   refine aqP (op_leq rfl rfl rfl) ?_
   (refine aqSeg rfl rfl rfl ?_; repeat (first | exact fun _ _ => rfl | refine upd_out rfl ?_))
  simp only [nA]
  refine aqP (op_assign rfl rfl) ?_
  refine AQ.nil ?_
  (refine hK _ ?_; clear hK K; (simp only [nA]))
  skip
  refine AW.ret ?_; exact RQ.of0 rfl (.tmp (bl rfl) rfl rfl .nil)
theorem C73 {p : Plate} : Fn Try.prog 73 [] [.agg p.av] [.v (.bool (plB p))] [] := by
  rw [← plR_eq]; exact C73r
def piR (p : Piece) : Bool := (((plB p.plate && decide (p.weight ≥ 1)) && decide (p.weight ≤ 999)) && decide (p.category ≥ 0)) && decide (p.category ≤ 4)
theorem piR_eq (p : Piece) : piR p = piB p := by unfold piR piB inB; simp only [Bool.and_assoc]
theorem C55r {p : Piece} : Fn Try.prog 55 [] [.agg p.av] [.v (.bool (piR p))] [] := by
  refine Spec.body Try.func55 rfl Try.ntmps55 (by simp) rfl ?_; intro S0 own0 v0 w0
  (refine AW.seq_k ?_; intro K hK)
  refine AW.region ?_
  refine awJ (op_box rfl rfl rfl sz31 rfl) ?_; (simp only [nA, Nat.reduceBEq, Nat.reduceEqDiff, ↓reduceIte])
  refine awP (op_assign rfl rfl) ?_
  refine AWL.nil ?_
  (refine hK _ ?_; clear hK K; (simp only [nA, Nat.reduceBEq, Nat.reduceEqDiff, ↓reduceIte, Nat.reduceAdd, Nat.reduceSub]))
  (refine AW.seq_k ?_; intro K hK)
  refine AW.region (AWL.quiet ?_)
  (refine aqP (op_fa_ptr rfl rfl rfl fl31_0 (by exact sz29) (by decide) rfl) ?_)
  (refine aqR (op_load_ptr rfl rfl rfl rfl ag29 sz29 (bl rfl) rfl) ?_)
  refine aqQ (op_callQ (b := true) rfl en73 (C73 (p := p.plate)) (RL.cons (by exact View.same rfl) (RL.nil)) rfl) ?_; (simp only [nA, Nat.reduceBEq, Nat.reduceEqDiff, ↓reduceIte, Nat.reduceAdd, Nat.reduceSub])
  refine aqP (op_move rfl rfl) ?_
  refine' aqAnd' [_, _, _] [7,8,9] rfl rfl rfl rfl rfl rfl rfl rfl rfl rfl rfl rfl (fun hb => ?_) ?_; rotate_left
  ·
   (try simp only [hcS] at hb)
   (refine aqP (op_fa_ptr rfl rfl rfl fl31_1 (by exact sz3) (by decide) rfl) ?_)
   (refine aqR (op_load_ptr1 rfl rfl rfl rfl ag3 rfl rfl) ?_)
   refine aqP (op_geq rfl rfl rfl) ?_
   (refine aqSeg rfl rfl rfl ?_; repeat (first | exact fun _ _ => rfl | refine upd_out rfl ?_))
  simp only [nA]
  refine aqP (op_move rfl rfl) ?_
  refine' aqAnd' [_, _, _] [12,13,14] rfl rfl rfl rfl rfl rfl rfl rfl rfl rfl rfl rfl (fun hb => ?_) ?_; rotate_left
  ·
   (try simp only [hcS] at hb)
   (refine aqP (op_fa_ptr rfl rfl rfl fl31_1 (by exact sz3) (by decide) rfl) ?_)
   (refine aqR (op_load_ptr1 rfl rfl rfl rfl ag3 rfl rfl) ?_)
   refine aqP (op_leq rfl rfl rfl) ?_
   (refine aqSeg rfl rfl rfl ?_; repeat (first | exact fun _ _ => rfl | refine upd_out rfl ?_))
  simp only [nA]
  refine aqP (op_move rfl rfl) ?_
  refine' aqAnd' [_, _, _] [17,18,19] rfl rfl rfl rfl rfl rfl rfl rfl rfl rfl rfl rfl (fun hb => ?_) ?_; rotate_left
  ·
   (try simp only [hcS] at hb)
   (refine aqP (op_fa_ptr rfl rfl rfl fl31_2 (by exact sz3) (by decide) rfl) ?_)
   (refine aqR (op_load_ptr1 rfl rfl rfl rfl ag3 rfl rfl) ?_)
   refine aqP (op_geq rfl rfl rfl) ?_
   (refine aqSeg rfl rfl rfl ?_; repeat (first | exact fun _ _ => rfl | refine upd_out rfl ?_))
  simp only [nA]
  refine aqP (op_move rfl rfl) ?_
  refine' aqAnd' [_, _, _] [22,23,24] rfl rfl rfl rfl rfl rfl rfl rfl rfl rfl rfl rfl (fun hb => ?_) ?_; rotate_left
  ·
   (try simp only [hcS] at hb)
   (refine aqP (op_fa_ptr rfl rfl rfl fl31_2 (by exact sz3) (by decide) rfl) ?_)
   (refine aqR (op_load_ptr1 rfl rfl rfl rfl ag3 rfl rfl) ?_)
   refine aqP (op_leq rfl rfl rfl) ?_
   (refine aqSeg rfl rfl rfl ?_; repeat (first | exact fun _ _ => rfl | refine upd_out rfl ?_))
  simp only [nA]
  refine aqP (op_assign rfl rfl) ?_
  refine AQ.nil ?_
  (refine hK _ ?_; clear hK K; (simp only [nA]))
  skip
  refine AW.ret ?_; exact RQ.of0 rfl (.tmp (bl rfl) rfl rfl .nil)
theorem C55 {p : Piece} : Fn Try.prog 55 [] [.agg p.av] [.v (.bool (piB p))] [] := by
  rw [← piR_eq]; exact C55r
def coR (c : Container) : Bool := (((((((((((decide (c.number ≥ 1) && decide (c.number ≤ 999)) && flB c.flight) && decide (c.categories ≥ 0)) && decide (c.categories < 32)) && decide (c.limit ≥ 0)) && decide (c.limit ≤ 20000)) && decide (c.most ≥ 0)) && decide (c.most ≤ 60)) && decide (c.position ≥ 0)) && decide (c.position ≤ 24)) && decide (c.arm ≥ -50)) && decide (c.arm ≤ 50)
theorem coR_eq (c : Container) : coR c = coB c := by
  unfold coR coB inB
  rw [show decide (c.categories < 32) = decide (c.categories ≤ 31) from decide_eq_decide.2 (by omega)]
  simp only [Bool.and_assoc]
theorem C87r {c : Container} : Fn Try.prog 87 [] [.agg c.av] [.v (.bool (coR c))] [] := by
  refine Spec.body Try.func87 rfl Try.ntmps87 (by simp) rfl ?_; intro S0 own0 v0 w0
  (refine AW.seq_k ?_; intro K hK)
  refine AW.region ?_
  refine awJ (op_box rfl rfl rfl sz77 rfl) ?_; (simp only [nA, Nat.reduceBEq, Nat.reduceEqDiff, ↓reduceIte])
  refine awP (op_assign rfl rfl) ?_
  refine AWL.nil ?_
  (refine hK _ ?_; clear hK K; (simp only [nA, Nat.reduceBEq, Nat.reduceEqDiff, ↓reduceIte, Nat.reduceAdd, Nat.reduceSub]))
  (refine AW.seq_k ?_; intro K hK)
  refine AW.region (AWL.quiet ?_)
  (refine aqP (op_fa_ptr rfl rfl rfl fl77_0 (by exact sz3) (by decide) rfl) ?_)
  (refine aqR (op_load_ptr1 rfl rfl rfl rfl ag3 rfl rfl) ?_)
  refine aqP (op_geq rfl rfl rfl) ?_
  refine aqP (op_move rfl rfl) ?_
  refine' aqAnd' [_, _, _] [7,8,9] rfl rfl rfl rfl rfl rfl rfl rfl rfl rfl rfl rfl (fun hb => ?_) ?_; rotate_left
  ·
   (try simp only [hcS] at hb)
   (refine aqP (op_fa_ptr rfl rfl rfl fl77_0 (by exact sz3) (by decide) rfl) ?_)
   (refine aqR (op_load_ptr1 rfl rfl rfl rfl ag3 rfl rfl) ?_)
   refine aqP (op_leq rfl rfl rfl) ?_
   (refine aqSeg rfl rfl rfl ?_; repeat (first | exact fun _ _ => rfl | refine upd_out rfl ?_))
  simp only [nA]
  refine aqP (op_move rfl rfl) ?_
  refine' aqAnd' [_, _, _] [12,13,14] rfl rfl rfl rfl rfl rfl rfl rfl rfl rfl rfl rfl (fun hb => ?_) ?_; rotate_left
  ·
   (try simp only [hcS] at hb)
   (refine aqP (op_fa_ptr rfl rfl rfl fl77_1 (by exact sz73) (by decide) rfl) ?_)
   (refine aqR (op_load_ptr rfl rfl rfl rfl ag73 sz73 (bl rfl) rfl) ?_)
   refine aqQ (op_callQ (b := true) rfl en85 (C85 (f := c.flight)) (RL.cons (by exact View.same rfl) (RL.nil)) rfl) ?_; (simp only [nA])
   (refine aqSeg rfl rfl rfl ?_; repeat (first | exact fun _ _ => rfl | refine upd_out rfl ?_))
  simp only [nA]
  refine aqP (op_move rfl rfl) ?_
  refine' aqAnd' [_, _, _] [17,18,19] rfl rfl rfl rfl rfl rfl rfl rfl rfl rfl rfl rfl (fun hb => ?_) ?_; rotate_left
  ·
   (try simp only [hcS] at hb)
   (refine aqP (op_fa_ptr rfl rfl rfl fl77_2 (by exact sz3) (by decide) rfl) ?_)
   (refine aqR (op_load_ptr1 rfl rfl rfl rfl ag3 rfl rfl) ?_)
   refine aqP (op_geq rfl rfl rfl) ?_
   (refine aqSeg rfl rfl rfl ?_; repeat (first | exact fun _ _ => rfl | refine upd_out rfl ?_))
  simp only [nA]
  refine aqP (op_move rfl rfl) ?_
  refine' aqAnd' [_, _, _] [22,23,24] rfl rfl rfl rfl rfl rfl rfl rfl rfl rfl rfl rfl (fun hb => ?_) ?_; rotate_left
  ·
   (try simp only [hcS] at hb)
   (refine aqP (op_fa_ptr rfl rfl rfl fl77_2 (by exact sz3) (by decide) rfl) ?_)
   (refine aqR (op_load_ptr1 rfl rfl rfl rfl ag3 rfl rfl) ?_)
   refine aqP (op_lss rfl rfl rfl) ?_
   (refine aqSeg rfl rfl rfl ?_; repeat (first | exact fun _ _ => rfl | refine upd_out rfl ?_))
  simp only [nA]
  refine aqP (op_move rfl rfl) ?_
  refine' aqAnd' [_, _, _] [27,28,29] rfl rfl rfl rfl rfl rfl rfl rfl rfl rfl rfl rfl (fun hb => ?_) ?_; rotate_left
  ·
   (try simp only [hcS] at hb)
   (refine aqP (op_fa_ptr rfl rfl rfl fl77_3 (by exact sz3) (by decide) rfl) ?_)
   (refine aqR (op_load_ptr1 rfl rfl rfl rfl ag3 rfl rfl) ?_)
   refine aqP (op_geq rfl rfl rfl) ?_
   (refine aqSeg rfl rfl rfl ?_; repeat (first | exact fun _ _ => rfl | refine upd_out rfl ?_))
  simp only [nA]
  refine aqP (op_move rfl rfl) ?_
  refine' aqAnd' [_, _, _] [32,33,34] rfl rfl rfl rfl rfl rfl rfl rfl rfl rfl rfl rfl (fun hb => ?_) ?_; rotate_left
  ·
   (try simp only [hcS] at hb)
   (refine aqP (op_fa_ptr rfl rfl rfl fl77_3 (by exact sz3) (by decide) rfl) ?_)
   (refine aqR (op_load_ptr1 rfl rfl rfl rfl ag3 rfl rfl) ?_)
   refine aqP (op_leq rfl rfl rfl) ?_
   (refine aqSeg rfl rfl rfl ?_; repeat (first | exact fun _ _ => rfl | refine upd_out rfl ?_))
  simp only [nA]
  refine aqP (op_move rfl rfl) ?_
  refine' aqAnd' [_, _, _] [37,38,39] rfl rfl rfl rfl rfl rfl rfl rfl rfl rfl rfl rfl (fun hb => ?_) ?_; rotate_left
  ·
   (try simp only [hcS] at hb)
   (refine aqP (op_fa_ptr rfl rfl rfl fl77_4 (by exact sz3) (by decide) rfl) ?_)
   (refine aqR (op_load_ptr1 rfl rfl rfl rfl ag3 rfl rfl) ?_)
   refine aqP (op_geq rfl rfl rfl) ?_
   (refine aqSeg rfl rfl rfl ?_; repeat (first | exact fun _ _ => rfl | refine upd_out rfl ?_))
  simp only [nA]
  refine aqP (op_move rfl rfl) ?_
  refine' aqAnd' [_, _, _] [42,43,44] rfl rfl rfl rfl rfl rfl rfl rfl rfl rfl rfl rfl (fun hb => ?_) ?_; rotate_left
  ·
   (try simp only [hcS] at hb)
   (refine aqP (op_fa_ptr rfl rfl rfl fl77_4 (by exact sz3) (by decide) rfl) ?_)
   (refine aqR (op_load_ptr1 rfl rfl rfl rfl ag3 rfl rfl) ?_)
   refine aqP (op_leq rfl rfl rfl) ?_
   (refine aqSeg rfl rfl rfl ?_; repeat (first | exact fun _ _ => rfl | refine upd_out rfl ?_))
  simp only [nA]
  refine aqP (op_move rfl rfl) ?_
  refine' aqAnd' [_, _, _] [47,48,49] rfl rfl rfl rfl rfl rfl rfl rfl rfl rfl rfl rfl (fun hb => ?_) ?_; rotate_left
  ·
   (try simp only [hcS] at hb)
   (refine aqP (op_fa_ptr rfl rfl rfl fl77_5 (by exact sz3) (by decide) rfl) ?_)
   (refine aqR (op_load_ptr1 rfl rfl rfl rfl ag3 rfl rfl) ?_)
   refine aqP (op_geq rfl rfl rfl) ?_
   (refine aqSeg rfl rfl rfl ?_; repeat (first | exact fun _ _ => rfl | refine upd_out rfl ?_))
  simp only [nA]
  refine aqP (op_move rfl rfl) ?_
  refine' aqAnd' [_, _, _] [52,53,54] rfl rfl rfl rfl rfl rfl rfl rfl rfl rfl rfl rfl (fun hb => ?_) ?_; rotate_left
  ·
   (try simp only [hcS] at hb)
   (refine aqP (op_fa_ptr rfl rfl rfl fl77_5 (by exact sz3) (by decide) rfl) ?_)
   (refine aqR (op_load_ptr1 rfl rfl rfl rfl ag3 rfl rfl) ?_)
   refine aqP (op_leq rfl rfl rfl) ?_
   (refine aqSeg rfl rfl rfl ?_; repeat (first | exact fun _ _ => rfl | refine upd_out rfl ?_))
  simp only [nA]
  refine aqP (op_move rfl rfl) ?_
  refine' aqAnd' [_, _, _] [57,58,59] rfl rfl rfl rfl rfl rfl rfl rfl rfl rfl rfl rfl (fun hb => ?_) ?_; rotate_left
  ·
   (try simp only [hcS] at hb)
   (refine aqP (op_fa_ptr rfl rfl rfl fl77_6 (by exact sz3) (by decide) rfl) ?_)
   (refine aqR (op_load_ptr1 rfl rfl rfl rfl ag3 rfl rfl) ?_)
   refine aqP (op_geq rfl rfl rfl) ?_
   (refine aqSeg rfl rfl rfl ?_; repeat (first | exact fun _ _ => rfl | refine upd_out rfl ?_))
  simp only [nA]
  refine aqP (op_move rfl rfl) ?_
  refine' aqAnd' [_, _, _] [62,63,64] rfl rfl rfl rfl rfl rfl rfl rfl rfl rfl rfl rfl (fun hb => ?_) ?_; rotate_left
  ·
   (try simp only [hcS] at hb)
   (refine aqP (op_fa_ptr rfl rfl rfl fl77_6 (by exact sz3) (by decide) rfl) ?_)
   (refine aqR (op_load_ptr1 rfl rfl rfl rfl ag3 rfl rfl) ?_)
   refine aqP (op_leq rfl rfl rfl) ?_
   (refine aqSeg rfl rfl rfl ?_; repeat (first | exact fun _ _ => rfl | refine upd_out rfl ?_))
  simp only [nA]
  refine aqP (op_assign rfl rfl) ?_
  refine AQ.nil ?_
  (refine hK _ ?_; clear hK K; (simp only [nA]))
  skip
  refine AW.ret ?_; exact RQ.of0 rfl (.tmp (bl rfl) rfl rfl .nil)
theorem C87 {c : Container} : Fn Try.prog 87 [] [.agg c.av] [.v (.bool (coB c))] [] := by
  rw [← coR_eq]; exact C87r
theorem C88 {c : Container} {p : Plate} (hcl : c.pieces.length ≤ 1000000000) : Fn Try.prog 88 [] [.agg c.av, .agg p.av] [.v (.bool (hasB c.pieces p))] [] := by
  refine Spec.body Try.func88 rfl Try.ntmps88 (by simp) rfl ?_; intro S0 own0 v0 w0
  (refine AW.seq_k ?_; intro K hK)
  refine AW.region ?_
  refine awJ (op_box rfl rfl rfl sz77 rfl) ?_; (simp only [nA, Nat.reduceBEq, Nat.reduceEqDiff, ↓reduceIte])
  refine awJ (op_box rfl rfl rfl sz29 rfl) ?_; (simp only [nA, Nat.reduceBEq, Nat.reduceEqDiff, ↓reduceIte])
  refine awP (op_assign rfl rfl) ?_
  refine AWL.nil ?_
  (refine hK _ ?_; clear hK K; (simp only [nA, Nat.reduceBEq, Nat.reduceEqDiff, ↓reduceIte, Nat.reduceAdd, Nat.reduceSub]))
  (refine AW.seq_k ?_; intro K hK)
  (refine AW.seq_k ?_; intro K hK)
  refine AW.region ?_
  refine awP (op_assign rfl rfl) ?_
  refine AWL.nil ?_
  (refine hK _ ?_; clear hK K; (simp only [nA, Nat.reduceBEq, Nat.reduceEqDiff, ↓reduceIte, Nat.reduceAdd, Nat.reduceSub]))
  refine AW.block ?_
  refine AW.loopI (fun (i : Nat) => [(2, .ptr 0 1 0 0), (3, .ptr 1 2 0 0), (5, .v (.int .i64 (i : Nat)))]) (fun i => ⟨[(1, .own 77 [c.av]), (2, .own 29 [p.av])], 3⟩) (fun i => i ≤ c.pieces.length ∧ ∀ k (h : k < c.pieces.length), k < i → c.pieces[k].plate ≠ p) (fun i => c.pieces.length - i) 0 (by simp) ⟨rfl, rfl, rfl, trivial⟩ rfl ?_; intro i ρ hi; simp only [updL]
  (refine AW.seq_k ?_; intro K hK)
  (refine AW.seq_k ?_; intro K hK)
  refine AW.region ?_
  refine awP (op_move rfl rfl) ?_
  (refine awP (op_fa_ptr rfl rfl rfl fl77_7 (by exact sz53) (by decide) rfl) ?_)
  (refine awR (op_load_ptr1 rfl rfl rfl rfl ag53 rfl rfl) ?_)
  (refine awP (op_len_ro rfl rfl Try.underlying53 (by exact .inr (.inl ⟨_, rfl, rfl⟩))) ?_)
  refine awP (op_lss rfl rfl rfl) ?_
  refine AWL.nil ?_
  (refine hK _ ?_; clear hK K; (simp only [nA, ↓reduceIte]))
  refine AW.cond rfl rfl rfl (fun hc => ?_) (fun hc => ?_)
  ·
   (try simp only [hcS] at hc); have hc1 := hc; have hlt : i < c.pieces.length := (by simpa using hc1)
   refine AW.skip ?_
   (refine hK _ ?_; clear hK K; (skip))
   (refine AW.seq_k ?_; intro K hK)
   refine AW.block ?_
   (refine AW.seq_k ?_; intro K hK)
   refine AW.quiet mix (by kernel_rfl) ?_
   (refine aqP (op_fa_ptr rfl rfl rfl fl77_7 (by exact sz53) (by decide) rfl) ?_)
   (refine aqR (op_load_ptr1 rfl rfl rfl rfl ag53 rfl rfl) ?_)
   refine aqP (op_move rfl rfl) ?_
   (refine aqP (op_ia_ro _ rfl (.inl rfl) rfl Try.underlying53 rfl (get_map (by omega)) (by exact sz31) (bl rfl)) ?_)
   (refine aqP (op_fa_rop rfl rfl fl31_0 (by exact sz29) (by decide) (bl rfl) rfl) ?_)
   (refine aqR (op_load_rop rfl rfl ag29 sz29 (bl rfl) (by decide) rfl) ?_)
   (refine aqR (op_load_ptr rfl rfl rfl rfl ag29 sz29 (bl rfl) rfl) ?_)
   refine aqP (op_eq29 rfl rfl rfl) ?_; (simp only [nA, ↓reduceIte])
   refine AQ.nil ?_
   (refine hK _ ?_; clear hK K; (skip))
   refine AW.cond rfl rfl rfl (fun hc => ?_) (fun hc => ?_)
   ·
    (try simp only [hcS] at hc); have hc2 := hc
    (refine AW.seq_k ?_; intro K hK)
    refine AW.region ?_
    refine awP (op_assign rfl rfl) ?_
    refine AWL.nil ?_
    (refine hK _ ?_; clear hK K; (simp only [nA, Nat.reduceBEq, Nat.reduceEqDiff, ↓reduceIte, Nat.reduceAdd, Nat.reduceSub]))
    skip
    refine AW.ret ?_; (simp only [thenE, inBlk, Nat.reduceEqDiff, ↓reduceIte]); rw [show hasB c.pieces p = true by unfold hasB; rw [List.any_eq_true]; exact ⟨c.pieces[i], List.getElem_mem _, by simpa using hc2⟩]; exact RQ.of0 rfl (.tmp (bl rfl) rfl rfl .nil)
   (try simp only [hcS] at hc); have hc2 := hc
   refine AW.skip ?_
   simp only [thenE, inBlk, Nat.reduceEqDiff, ↓reduceIte]
   (refine hK _ ?_; clear hK K; (skip))
   refine AW.region ?_
   refine awP (op_move rfl rfl) ?_
   (refine awP (op_addi rfl rfl rfl (by omega)) ?_)
   refine awP (op_assign rfl rfl) ?_
   skip
   refine AWL.nil ?_
   refine ⟨i + 1, ⟨by omega, fun k h hk => by rcases Nat.lt_or_ge k i with h' | h'; exact hi.2 k h h'; (obtain rfl : k = i := by omega); exact hc2⟩, by omega, ⟨rfl, rfl, rfl, trivial⟩, (by rfl), (by rfl)⟩
  (try simp only [hcS] at hc); have hc1 := hc
  refine AW.exit ?_; (simp only [thenE, inBlk, Nat.reduceEqDiff, ↓reduceIte])
  clear hK K
  (refine hK _ ?_; clear hK K; (skip))
  (refine AW.seq_k ?_; intro K hK)
  refine AW.region ?_
  refine awP (op_assign rfl rfl) ?_
  refine AWL.nil ?_
  (refine hK _ ?_; clear hK K; (simp only [nA, Nat.reduceBEq, Nat.reduceEqDiff, ↓reduceIte, Nat.reduceAdd, Nat.reduceSub]))
  skip
  refine AW.ret ?_; rw [show hasB c.pieces p = false by unfold hasB; rw [List.any_eq_false]; intro x hx; obtain ⟨k, hk, rfl⟩ := List.getElem_of_mem hx; have := hi.2 k hk (by simp at hc1; omega); simpa using this]; exact RQ.of0 rfl (.tmp (bl rfl) rfl rfl .nil)
end Go.Proofs.Ytdnofpggdddimaa
namespace Go.Proofs.Ytdnofpggdddimaa
open Go.RowKit
set_option linter.unusedSimpArgs false
set_option linter.unusedVariables false
set_option maxRecDepth 100000
theorem cmpP_bd (p q : Plate) : cmpP p q = -1 ∨ cmpP p q = 0 ∨ cmpP p q = 1 := by
  rcases cmpP_cases p q with ⟨_, e⟩ | ⟨_, e⟩ | ⟨_, e⟩ <;> omega
theorem C70 {c : Container} : Fn Try.prog 70 [] [.agg c.av] [.v (.int .i64 (valC c))] [] := by
  refine Spec.body Try.func70 rfl Try.ntmps70 (by simp) rfl ?_; intro S0 own0 v0 w0
  (refine AW.seq_k ?_; intro K hK)
  refine AW.region ?_
  refine awJ (op_box rfl rfl rfl sz77 rfl) ?_; (simp only [nA, Nat.reduceBEq, Nat.reduceEqDiff, ↓reduceIte])
  refine awP (op_assign rfl rfl) ?_; (simp only [nA, Nat.reduceBEq, Nat.reduceEqDiff, ↓reduceIte, Nat.reduceAdd, Nat.reduceSub])
  refine AWL.nil ?_
  (refine hK _ ?_; clear hK K; (simp only [nA, Nat.reduceBEq, Nat.reduceEqDiff, ↓reduceIte, Nat.reduceAdd, Nat.reduceSub]))
  (refine AW.seq_k ?_; intro K hK)
  (refine AW.seq_k ?_; intro K hK)
  refine AW.region ?_
  (refine awR (op_load_ptr rfl rfl rfl rfl ag77 sz77 (bl rfl) rfl) ?_); (simp only [nA, Nat.reduceBEq, Nat.reduceEqDiff, ↓reduceIte, Nat.reduceAdd, Nat.reduceSub])
  refine awJ (OpQ.j (op_callQ (b := true) rfl en87 (C87 (c := c)) (RL.cons (by exact View.same rfl) (RL.nil)) rfl)) ?_; (simp only [nA, Nat.reduceBEq, Nat.reduceEqDiff, ↓reduceIte, Nat.reduceAdd, Nat.reduceSub])
  refine awP (op_not rfl rfl rfl) ?_; (simp only [nA, Nat.reduceBEq, Nat.reduceEqDiff, ↓reduceIte, Nat.reduceAdd, Nat.reduceSub])
  refine AWL.nil ?_
  (refine hK _ ?_; clear hK K; (skip))
  refine AW.cond rfl rfl rfl (fun hc => ?_) (fun hc => ?_)
  ·
   (try simp only [hcS] at hc); have hc1 := hc
   (refine AW.seq_k ?_; intro K hK)
   refine AW.region ?_
   refine awP (op_assign rfl rfl) ?_; (simp only [nA, Nat.reduceBEq, Nat.reduceEqDiff, ↓reduceIte, Nat.reduceAdd, Nat.reduceSub])
   refine AWL.nil ?_
   (refine hK _ ?_; clear hK K; (skip))
   skip
   refine AW.ret ?_; (simp only [thenE, inBlk, Nat.reduceEqDiff, ↓reduceIte]); rw [show valC c = 1 by unfold valC; rw [if_pos hc]]; exact RQ.of0 rfl (.tmp (bl rfl) rfl rfl .nil)
  (try simp only [hcS] at hc); have hc1 := hc
  refine AW.skip ?_
  (refine hK _ ?_; clear hK K; (skip))
  (refine AW.seq_k ?_; intro K hK)
  (refine AW.seq_k ?_; intro K hK)
  refine AW.region ?_
  (refine awP (op_fa_ptr rfl rfl rfl fl77_7 (by exact sz53) (by decide) rfl) ?_); (simp only [nA, Nat.reduceBEq, Nat.reduceEqDiff, ↓reduceIte, Nat.reduceAdd, Nat.reduceSub])
  (refine awR (op_load_ptr1 rfl rfl rfl rfl ag53 rfl rfl) ?_); (simp only [nA, Nat.reduceBEq, Nat.reduceEqDiff, ↓reduceIte, Nat.reduceAdd, Nat.reduceSub])
  (refine awP (op_len_ro rfl rfl Try.underlying53 (by exact .inr (.inl ⟨_, rfl, rfl⟩))) ?_); (simp only [nA, Nat.reduceBEq, Nat.reduceEqDiff, ↓reduceIte, Nat.reduceAdd, Nat.reduceSub])
  refine awP (op_gtr rfl rfl rfl) ?_; (simp only [nA, Nat.reduceBEq, Nat.reduceEqDiff, ↓reduceIte, Nat.reduceAdd, Nat.reduceSub])
  refine AWL.nil ?_
  (refine hK _ ?_; clear hK K; (skip))
  refine AW.cond rfl rfl rfl (fun hc => ?_) (fun hc => ?_)
  ·
   (try simp only [hcS] at hc); have hc2 := hc
   (refine AW.seq_k ?_; intro K hK)
   refine AW.region ?_
   refine awP (op_assign rfl rfl) ?_; (simp only [nA, Nat.reduceBEq, Nat.reduceEqDiff, ↓reduceIte, Nat.reduceAdd, Nat.reduceSub])
   refine AWL.nil ?_
   (refine hK _ ?_; clear hK K; (skip))
   skip
   refine AW.ret ?_; (simp only [thenE, inBlk, Nat.reduceEqDiff, ↓reduceIte]); rw [show valC c = 2 by unfold valC; rw [if_neg (by simp [hc1]), if_pos (by omega)]]; exact RQ.of0 rfl (.tmp (bl rfl) rfl rfl .nil)
  (try simp only [hcS] at hc); have hc2 := hc
  refine AW.skip ?_
  (refine hK _ ?_; clear hK K; (skip))
  (refine AW.seq_k ?_; intro K hK)
  (refine AW.seq_k ?_; intro K hK)
  refine AW.region ?_
  refine awP (op_assign rfl rfl) ?_; (simp only [nA, Nat.reduceBEq, Nat.reduceEqDiff, ↓reduceIte, Nat.reduceAdd, Nat.reduceSub])
  refine AWL.nil ?_
  (refine hK _ ?_; clear hK K; (skip))
  refine AW.block ?_
  refine AW.loopI (fun (i : Nat) => [(1, .ptr 0 1 0 0), (3, .v (.int .i64 (i : Nat)))]) (fun i => ⟨[(1, .own 77 [c.av])], 2⟩) (fun i => i ≤ c.pieces.length ∧ ∀ k, k < i → errI c.pieces k = 0) (fun i => c.pieces.length - i) 0 (by simp) ⟨rfl, rfl, trivial⟩ rfl ?_; intro i ρ hi; simp only [updL]
  (refine AW.seq_k ?_; intro K hK)
  (refine AW.seq_k ?_; intro K hK)
  refine AW.region ?_
  refine awP (op_move rfl rfl) ?_; (simp only [nA, ↓reduceIte])
  (refine awP (op_fa_ptr rfl rfl rfl fl77_7 (by exact sz53) (by decide) rfl) ?_); (simp only [nA, Nat.reduceBEq, Nat.reduceEqDiff, ↓reduceIte, Nat.reduceAdd, Nat.reduceSub])
  (refine awR (op_load_ptr1 rfl rfl rfl rfl ag53 rfl rfl) ?_); (simp only [nA, Nat.reduceBEq, Nat.reduceEqDiff, ↓reduceIte, Nat.reduceAdd, Nat.reduceSub])
  (refine awP (op_len_ro rfl rfl Try.underlying53 (by exact .inr (.inl ⟨_, rfl, rfl⟩))) ?_); (simp only [nA, Nat.reduceBEq, Nat.reduceEqDiff, ↓reduceIte, Nat.reduceAdd, Nat.reduceSub])
  refine awP (op_lss rfl rfl rfl) ?_; (simp only [nA, Nat.reduceBEq, Nat.reduceEqDiff, ↓reduceIte, Nat.reduceAdd, Nat.reduceSub])
  refine AWL.nil ?_
  (refine hK _ ?_; clear hK K; (skip))
  refine AW.cond rfl rfl rfl (fun hc => ?_) (fun hc => ?_)
  ·
   (try simp only [hcS] at hc); have hc3 := hc; have hlt : i < c.pieces.length := (by simpa using hc3)
   refine AW.skip ?_
   (refine hK _ ?_; clear hK K; (skip))
   (refine AW.seq_k ?_; intro K hK)
   refine AW.block ?_
   (refine AW.seq_k ?_; intro K hK)
   (refine AW.seq_k ?_; intro K hK)
   refine AW.region ?_
   (refine awP (op_fa_ptr rfl rfl rfl fl77_7 (by exact sz53) (by decide) rfl) ?_); (simp only [nA, Nat.reduceBEq, Nat.reduceEqDiff, ↓reduceIte, Nat.reduceAdd, Nat.reduceSub])
   (refine awR (op_load_ptr1 rfl rfl rfl rfl ag53 rfl rfl) ?_); (simp only [nA, Nat.reduceBEq, Nat.reduceEqDiff, ↓reduceIte, Nat.reduceAdd, Nat.reduceSub])
   refine awP (op_move rfl rfl) ?_; (simp only [nA, ↓reduceIte])
   (refine awP (op_ia_ro i rfl (.inl rfl) rfl Try.underlying53 rfl (get_map (by omega)) (by exact sz31) (bl rfl)) ?_); (simp only [nA, Nat.reduceBEq, Nat.reduceEqDiff, ↓reduceIte, Nat.reduceAdd, Nat.reduceSub])
   (refine awR (op_load_rop rfl rfl ag31 sz31 (bl rfl) (by decide) rfl) ?_); (simp only [nA, Nat.reduceBEq, Nat.reduceEqDiff, ↓reduceIte, Nat.reduceAdd, Nat.reduceSub])
   refine awJ (OpQ.j (op_callQ (b := true) rfl en55 (C55) (RL.cons (by exact View.same rfl) (RL.nil)) rfl)) ?_; (simp only [nA, Nat.reduceBEq, Nat.reduceEqDiff, ↓reduceIte, Nat.reduceAdd, Nat.reduceSub])
   refine awP (op_not rfl rfl rfl) ?_; (simp only [nA, Nat.reduceBEq, Nat.reduceEqDiff, ↓reduceIte, Nat.reduceAdd, Nat.reduceSub])
   refine AWL.nil ?_
   (refine hK _ ?_; clear hK K; (skip))
   refine AW.cond rfl rfl rfl (fun hc => ?_) (fun hc => ?_)
   ·
    (try simp only [hcS] at hc); have hc4 := hc
    (refine AW.seq_k ?_; intro K hK)
    refine AW.region ?_
    refine awP (op_assign rfl rfl) ?_; (simp only [nA, Nat.reduceBEq, Nat.reduceEqDiff, ↓reduceIte, Nat.reduceAdd, Nat.reduceSub])
    refine AWL.nil ?_
    (refine hK _ ?_; clear hK K; (skip))
    skip
    refine AW.ret ?_; (simp only [thenE, inBlk, Nat.reduceEqDiff, ↓reduceIte]); rw [val_err (e := 1) hc1 (by omega) (i := i) (by omega) hi.2 (by rw [errI_at (by omega), if_pos hc4]) (by decide)]; exact RQ.of0 rfl (.tmp (bl rfl) rfl rfl .nil)
   (try simp only [hcS] at hc); have hc4 := hc
   refine AW.skip ?_
   (refine hK _ ?_; clear hK K; (skip))
   (refine AW.seq_k ?_; intro K hK)
   (refine AW.seq_k ?_; intro K hK)
   refine AW.region ?_
   refine awP (op_move rfl rfl) ?_; (simp only [nA, ↓reduceIte])
   (refine awP (op_eql rfl rfl rfl) ?_); (simp only [nA, Nat.reduceBEq, Nat.reduceEqDiff, ↓reduceIte, Nat.reduceAdd, Nat.reduceSub])
   refine AWL.nil ?_
   (refine hK _ ?_; clear hK K; (skip))
   refine AW.cond rfl rfl rfl (fun hc => ?_) (fun hc => ?_)
   ·
    (try simp only [hcS] at hc); have hc5 := hc
    refine AW.exit ?_; (simp only [thenE, inBlk, Nat.reduceEqDiff, ↓reduceIte])
    clear hK K
    (refine hK _ ?_; clear hK K; (skip))
    refine AW.region ?_
    refine awP (op_move rfl rfl) ?_; (simp only [nA, ↓reduceIte])
    (refine awP (op_addi rfl rfl rfl (by omega)) ?_); (simp only [nA, Nat.reduceBEq, Nat.reduceEqDiff, ↓reduceIte, Nat.reduceAdd, Nat.reduceSub])
    refine awP (op_assign rfl rfl) ?_; (simp only [nA])
    skip
    refine AWL.nil ?_
    refine ⟨i + 1, ⟨by omega, all_step hi.2 (by rw [errI_at (by omega), if_neg (by simp [hc4]), if_pos (by omega)])⟩, by omega, ⟨rfl, rfl, trivial⟩, (by rfl), (by rfl)⟩
   (try simp only [hcS] at hc); have hc5 := hc
   refine AW.skip ?_
   (refine hK _ ?_; clear hK K; (skip))
   (refine AW.seq_k ?_; intro K hK)
   refine AW.quiet mix (by kernel_rfl) ?_
   (refine aqP (op_fa_ptr rfl rfl rfl fl77_7 (by exact sz53) (by decide) rfl) ?_); (simp only [nA, Nat.reduceBEq, Nat.reduceEqDiff, ↓reduceIte, Nat.reduceAdd, Nat.reduceSub])
   (refine aqR (op_load_ptr1 rfl rfl rfl rfl ag53 rfl rfl) ?_); (simp only [nA, Nat.reduceBEq, Nat.reduceEqDiff, ↓reduceIte, Nat.reduceAdd, Nat.reduceSub])
   refine aqP (op_move rfl rfl) ?_; (simp only [nA, ↓reduceIte])
   (refine aqP (op_subi rfl rfl rfl (by omega)) ?_); (simp only [nA, Nat.reduceBEq, Nat.reduceEqDiff, ↓reduceIte, Nat.reduceAdd, Nat.reduceSub])
   (refine aqP (op_ia_ro (i - 1) rfl (.inl rfl) rfl Try.underlying53 (by omega) (get_map (by omega)) (by exact sz31) (bl rfl)) ?_); (simp only [nA, Nat.reduceBEq, Nat.reduceEqDiff, ↓reduceIte, Nat.reduceAdd, Nat.reduceSub])
   (refine aqP (op_fa_rop rfl rfl fl31_0 (by exact sz29) (by decide) (bl rfl) rfl) ?_); (simp only [nA, Nat.reduceBEq, Nat.reduceEqDiff, ↓reduceIte, Nat.reduceAdd, Nat.reduceSub])
   (refine aqR (op_load_rop rfl rfl ag29 sz29 (bl rfl) (by decide) rfl) ?_); (simp only [nA, Nat.reduceBEq, Nat.reduceEqDiff, ↓reduceIte, Nat.reduceAdd, Nat.reduceSub])
   (refine aqP (op_fa_ptr rfl rfl rfl fl77_7 (by exact sz53) (by decide) rfl) ?_); (simp only [nA, Nat.reduceBEq, Nat.reduceEqDiff, ↓reduceIte, Nat.reduceAdd, Nat.reduceSub])
   (refine aqR (op_load_ptr1 rfl rfl rfl rfl ag53 rfl rfl) ?_); (simp only [nA, Nat.reduceBEq, Nat.reduceEqDiff, ↓reduceIte, Nat.reduceAdd, Nat.reduceSub])
   refine aqP (op_move rfl rfl) ?_; (simp only [nA, ↓reduceIte])
   (refine aqP (op_ia_ro _ rfl (.inl rfl) rfl Try.underlying53 rfl (get_map (by omega)) (by exact sz31) (bl rfl)) ?_); (simp only [nA, Nat.reduceBEq, Nat.reduceEqDiff, ↓reduceIte, Nat.reduceAdd, Nat.reduceSub])
   (refine aqP (op_fa_rop rfl rfl fl31_0 (by exact sz29) (by decide) (bl rfl) rfl) ?_); (simp only [nA, Nat.reduceBEq, Nat.reduceEqDiff, ↓reduceIte, Nat.reduceAdd, Nat.reduceSub])
   (refine aqR (op_load_rop rfl rfl ag29 sz29 (bl rfl) (by decide) rfl) ?_); (simp only [nA, Nat.reduceBEq, Nat.reduceEqDiff, ↓reduceIte, Nat.reduceAdd, Nat.reduceSub])
   refine aqQ (op_callQ (b := true) rfl en68 (C68) (RL.cons (by exact View.same rfl) (RL.cons (by exact View.same rfl) (RL.nil))) rfl) ?_; (simp only [nA, Nat.reduceBEq, Nat.reduceEqDiff, ↓reduceIte, Nat.reduceAdd, Nat.reduceSub])
   refine aqP (op_assign rfl rfl) ?_; (simp only [nA])
   refine AQ.nil ?_
   (refine hK _ ?_; clear hK K; (skip))
   (refine AW.seq_k ?_; intro K hK)
   refine AW.region ?_
   refine awP (op_move rfl rfl) ?_; (simp only [nA])
   (refine awP (op_eql rfl rfl rfl) ?_); (simp only [nA, Nat.reduceBEq, Nat.reduceEqDiff, ↓reduceIte, Nat.reduceAdd, Nat.reduceSub])
   refine AWL.nil ?_
   (refine hK _ ?_; clear hK K; (skip))
   refine AW.cond rfl rfl rfl (fun hc => ?_) (fun hc => ?_)
   ·
    (try simp only [hcS] at hc); have hc6 := hc
    (refine AW.seq_k ?_; intro K hK)
    refine AW.region ?_
    refine awP (op_assign rfl rfl) ?_; (simp only [nA, Nat.reduceBEq, Nat.reduceEqDiff, ↓reduceIte, Nat.reduceAdd, Nat.reduceSub])
    refine AWL.nil ?_
    (refine hK _ ?_; clear hK K; (skip))
    skip
    refine AW.ret ?_; (simp only [thenE, inBlk, Nat.reduceEqDiff, ↓reduceIte]); rw [val_err (e := 5) hc1 (by omega) (i := i) (by omega) hi.2 (by rw [errI_at (by omega), if_neg (by simp [hc4]), if_neg (by omega), if_pos hc6]) (by decide)]; exact RQ.of0 rfl (.tmp (bl rfl) rfl rfl .nil)
   (try simp only [hcS] at hc); have hc6 := hc; have hcb := cmpP_bd c.pieces[i - 1].plate c.pieces[i].plate
   (refine AW.seq_k ?_; intro K hK)
   refine AW.region ?_
   refine awP (op_move rfl rfl) ?_; (simp only [nA, ↓reduceIte])
   refine awP (op_gtr rfl rfl rfl) ?_; (simp only [nA, Nat.reduceBEq, Nat.reduceEqDiff, ↓reduceIte, Nat.reduceAdd, Nat.reduceSub])
   refine AWL.nil ?_
   (refine hK _ ?_; clear hK K; (skip))
   refine AW.cond rfl rfl rfl (fun hc => ?_) (fun hc => ?_)
   ·
    (try simp only [hcS] at hc); have hc7 := hc
    (refine AW.seq_k ?_; intro K hK)
    refine AW.region ?_
    refine awP (op_assign rfl rfl) ?_; (simp only [nA, Nat.reduceBEq, Nat.reduceEqDiff, ↓reduceIte, Nat.reduceAdd, Nat.reduceSub])
    refine AWL.nil ?_
    (refine hK _ ?_; clear hK K; (skip))
    skip
    refine AW.ret ?_; (simp only [thenE, inBlk, Nat.reduceEqDiff, ↓reduceIte]); rw [val_err (e := 9) hc1 (by omega) (i := i) (by omega) hi.2 (by rw [errI_at (by omega), if_neg (by simp [hc4]), if_neg (by omega), if_neg hc6, if_pos (by omega)]) (by decide)]; exact RQ.of0 rfl (.tmp (bl rfl) rfl rfl .nil)
   (try simp only [hcS] at hc); have hc7 := hc
   refine AW.skip ?_
   simp only [thenE, inBlk, Nat.reduceEqDiff, ↓reduceIte]
   (refine hK _ ?_; clear hK K; (skip))
   refine AW.region ?_
   refine awP (op_move rfl rfl) ?_; (simp only [nA, ↓reduceIte])
   (refine awP (op_addi rfl rfl rfl (by omega)) ?_); (simp only [nA, Nat.reduceBEq, Nat.reduceEqDiff, ↓reduceIte, Nat.reduceAdd, Nat.reduceSub])
   refine awP (op_assign rfl rfl) ?_; (simp only [nA])
   skip
   refine AWL.nil ?_
   refine ⟨i + 1, ⟨by omega, all_step hi.2 (by rw [errI_at (by omega), if_neg (by simp [hc4]), if_neg (by omega), if_neg hc6, if_neg (by omega)])⟩, by omega, ⟨rfl, rfl, trivial⟩, (by rfl), (by rfl)⟩
  (try simp only [hcS] at hc); have hc3 := hc
  refine AW.exit ?_; (simp only [thenE, inBlk, Nat.reduceEqDiff, ↓reduceIte])
  clear hK K
  (refine hK _ ?_; clear hK K; (skip))
  (refine AW.seq_k ?_; intro K hK)
  refine AW.region ?_
  refine awP (op_assign rfl rfl) ?_; (simp only [nA, Nat.reduceBEq, Nat.reduceEqDiff, ↓reduceIte, Nat.reduceAdd, Nat.reduceSub])
  refine AWL.nil ?_
  (refine hK _ ?_; clear hK K; (skip))
  skip
  refine AW.ret ?_; rw [val_ok hc1 (by omega) (i := i) (by omega) hi.2]; exact RQ.of0 rfl (.tmp (bl rfl) rfl rfl .nil)
abbrev setP (c : Container) (l : List Piece) : Container := ⟨c.number, c.flight, c.categories, c.limit, c.most, c.position, c.arm, l⟩
end Go.Proofs.Ytdnofpggdddimaa
namespace Go.Proofs.Ytdnofpggdddimaa
open Go.RowKit
set_option linter.unusedSimpArgs false
set_option linter.unusedVariables false
set_option maxRecDepth 100000
def smallB (xs : List Container) : Bool := xs.all (fun c => decide (c.pieces.length ≤ 70)) && decide ((xs.length : Int) ≤ 30)
theorem C28 {xs : List Container} (hx : xs.length ≤ 9223372036854775807) : Fn Try.prog 28 [] [.ro (xs.map Container.av)] [.v (.bool (smallB xs))] [] := by
  refine Spec.body Try.func28 rfl Try.ntmps28 (by simp) rfl ?_; intro S0 own0 v0 w0
  (refine AW.seq_k ?_; intro K hK)
  refine AW.region ?_
  refine awP (op_assign rfl rfl) ?_
  refine AWL.nil ?_
  (refine hK _ ?_; clear hK K; (simp only [nA, Nat.reduceBEq, Nat.reduceEqDiff, ↓reduceIte, Nat.reduceAdd, Nat.reduceSub]))
  (refine AW.seq_k ?_; intro K hK)
  (refine AW.seq_k ?_; intro K hK)
  refine AW.region ?_
  refine awP (op_move rfl rfl) ?_
  (refine awP (op_len_ro rfl rfl Try.underlying23 (by exact .inr (.inl ⟨_, rfl, rfl⟩))) ?_)
  refine awP (op_move rfl rfl) ?_
  refine AWL.nil ?_
  (refine hK _ ?_; clear hK K; (simp only [nA, ↓reduceIte]))
  refine AW.block ?_
  refine AW.loopI (fun (i : Nat) => [(0, .ro (xs.map Container.av)), (5, .v (.int .i64 (xs.length : Nat))), (6, .v (.int .i64 (i : Nat)))]) (fun _ => ⟨[], 1⟩) (fun i => i ≤ xs.length ∧ ∀ k (h : k < xs.length), k < i → xs[k].pieces.length ≤ 70) (fun i => xs.length - i) 0 (by simp) ⟨rfl, rfl, rfl, trivial⟩ rfl ?_; intro i ρ hI; simp only [updL]
  (refine AW.seq_k ?_; intro K hK)
  refine AW.region ?_
  refine awP (op_lss rfl rfl rfl) ?_
  refine AWL.nil ?_
  (refine hK _ ?_; clear hK K; (simp only [nA, Nat.reduceBEq, Nat.reduceEqDiff, ↓reduceIte, Nat.reduceAdd, Nat.reduceSub]))
  (refine AW.seq_k ?_; intro K hK)
  refine AW.cond rfl rfl rfl (fun hc => ?_) (fun hc => ?_)
  ·
   (try simp only [hcS] at hc); have hc1 := hc; have hlt : i < xs.length := (by simpa using hc1); obtain ⟨c, hci⟩ : ∃ c, xs[i]? = some c := ⟨xs[i], List.getElem?_eq_getElem hlt⟩; obtain ⟨h0, h00⟩ := List.getElem?_eq_some_iff.1 hci
   refine AW.skip ?_
   (refine hK _ ?_; clear hK K; (skip))
   (refine AW.seq_k ?_; intro K hK)
   refine AW.block ?_
   (refine AW.seq_k ?_; intro K hK)
   refine AW.region ?_
   refine awP (op_move rfl rfl) ?_
   refine awP (op_assign rfl rfl) ?_
   refine AWL.nil ?_
   (refine hK _ ?_; clear hK K; (simp only [nA, ↓reduceIte]))
   (refine AW.seq_k ?_; intro K hK)
   refine AW.region ?_
   refine awP (op_move rfl rfl) ?_
   refine awP (op_move rfl rfl) ?_
   (refine awP (op_ia_ro i rfl (.inl rfl) rfl Try.underlying23 rfl (get_of hci) (by exact sz77) (bl rfl)) ?_)
   (refine awP (op_fa_rop rfl rfl fl77_7 (by exact sz53) (by decide) (bl rfl) rfl) ?_)
   (refine awR (op_load_rop1 rfl rfl ag53) ?_)
   (refine awP (op_len_ro rfl rfl Try.underlying53 (by exact .inr (.inl ⟨_, rfl, rfl⟩))) ?_)
   refine awP (op_gtr rfl rfl rfl) ?_
   refine AWL.nil ?_
   (refine hK _ ?_; clear hK K; (simp only [nA, ↓reduceIte]))
   refine AW.cond rfl rfl rfl (fun hc => ?_) (fun hc => ?_)
   ·
    (try simp only [hcS] at hc); have hc2 := hc
    (refine AW.seq_k ?_; intro K hK)
    refine AW.region ?_
    refine awP (op_assign rfl rfl) ?_
    refine AWL.nil ?_
    (refine hK _ ?_; clear hK K; (simp only [nA, Nat.reduceBEq, Nat.reduceEqDiff, ↓reduceIte, Nat.reduceAdd, Nat.reduceSub]))
    skip
    refine AW.ret ?_; (simp only [thenE, inBlk, Nat.reduceEqDiff, ↓reduceIte]); rw [show smallB xs = false by unfold smallB; rw [Bool.and_eq_false_iff]; left; rw [List.all_eq_false]; exact ⟨c, List.mem_of_getElem? hci, by simp; omega⟩]; exact RQ.of0 rfl (.tmp (bl rfl) rfl rfl .nil)
   (try simp only [hcS] at hc); have hc2 := hc
   refine AW.skip ?_
   simp only [thenE, inBlk, Nat.reduceEqDiff, ↓reduceIte]
   (refine hK _ ?_; clear hK K; (skip))
   refine AW.region ?_
   (refine awP (op_addi rfl rfl rfl (by omega)) ?_)
   refine awP (op_move rfl rfl) ?_
   skip
   refine AWL.nil ?_
   refine ⟨i + 1, ⟨by omega, fun k h hk => by rcases Nat.lt_or_ge k i with h' | h'; exact hI.2 k h h'; (obtain rfl : k = i := by omega); (rw [h00]; omega)⟩, by omega, ⟨rfl, rfl, rfl, trivial⟩, (by rfl), (by rfl)⟩
  (try simp only [hcS] at hc); have hc1 := hc
  refine AW.exit ?_; (simp only [thenE, inBlk, Nat.reduceEqDiff, ↓reduceIte])
  clear hK K
  (refine hK _ ?_; clear hK K; (skip))
  (refine AW.seq_k ?_; intro K hK)
  refine AW.region ?_
  refine awP (op_move rfl rfl) ?_
  (refine awP (op_len_ro rfl rfl Try.underlying23 (by exact .inr (.inl ⟨_, rfl, rfl⟩))) ?_)
  refine awP (op_leq rfl rfl rfl) ?_
  refine awP (op_assign rfl rfl) ?_
  refine AWL.nil ?_
  (refine hK _ ?_; clear hK K; (simp only [nA, ↓reduceIte]))
  skip
  refine AW.ret ?_; rw [show smallB xs = decide ((xs.length : Int) ≤ 30) by unfold smallB; rw [List.all_eq_true.2 (fun x hx => by obtain ⟨k, hk, rfl⟩ := List.getElem_of_mem hx; exact decide_eq_true (hI.2 k hk (by omega)))]; rfl]; exact RQ.of0 rfl (.tmp (bl rfl) rfl rfl .nil)
theorem C71 {xs : List Container} {p : Plate} (hx : xs.length ≤ 1000000) (hb : ∀ c ∈ xs, c.pieces.length ≤ 1000000000) : Fn Try.prog 71 [] [.ro (xs.map Container.av), .agg p.av] [.v (.int .i64 (findL xs p).1), .v (.bool (findL xs p).2)] [] := by
  refine Spec.body Try.func71 rfl Try.ntmps71 (by simp) rfl ?_; intro S0 own0 v0 w0
  (refine AW.seq_k ?_; intro K hK)
  refine AW.region ?_
  refine awJ (op_box rfl rfl rfl sz29 rfl) ?_; (simp only [nA, Nat.reduceBEq, Nat.reduceEqDiff, ↓reduceIte])
  refine awP (op_assign rfl rfl) ?_
  refine awP (op_assign rfl rfl) ?_
  refine AWL.nil ?_
  (refine hK _ ?_; clear hK K; (simp only [nA, Nat.reduceBEq, Nat.reduceEqDiff, ↓reduceIte, Nat.reduceAdd, Nat.reduceSub]))
  (refine AW.seq_k ?_; intro K hK)
  (refine AW.seq_k ?_; intro K hK)
  refine AW.region ?_
  refine awP (op_assign rfl rfl) ?_
  refine AWL.nil ?_
  (refine hK _ ?_; clear hK K; (simp only [nA, Nat.reduceBEq, Nat.reduceEqDiff, ↓reduceIte, Nat.reduceAdd, Nat.reduceSub]))
  refine AW.block ?_
  refine AW.loopI (fun (i : Nat) => [(0, .ro (xs.map Container.av)), (3, .ptr 0 1 0 0), (6, .v (.int .i64 (i : Nat)))]) (fun _ => ⟨[(1, .own 29 [p.av])], 2⟩) (fun i => i ≤ xs.length ∧ ∀ k (h : k < xs.length), k < i → hasB xs[k].pieces p = false) (fun i => xs.length - i) 0 ⟨by simp, by simp⟩ ⟨rfl, rfl, rfl, trivial⟩ rfl ?_; intro i ρ hI; simp only [updL]
  (refine AW.seq_k ?_; intro K hK)
  (refine AW.seq_k ?_; intro K hK)
  refine AW.region ?_
  refine awP (op_move rfl rfl) ?_
  refine awP (op_move rfl rfl) ?_
  (refine awP (op_len_ro rfl rfl Try.underlying23 (by exact .inr (.inl ⟨_, rfl, rfl⟩))) ?_)
  refine awP (op_lss rfl rfl rfl) ?_
  refine AWL.nil ?_
  (refine hK _ ?_; clear hK K; (simp only [nA, ↓reduceIte]))
  refine AW.cond rfl rfl rfl (fun hc => ?_) (fun hc => ?_)
  ·
   (try simp only [hcS] at hc); have hc1 := hc; have hlt : i < xs.length := (by simpa using hc1); obtain ⟨c, hci⟩ : ∃ c, xs[i]? = some c := ⟨xs[i], List.getElem?_eq_getElem hlt⟩; have hcl := hb c (List.mem_of_getElem? hci)
   refine AW.skip ?_
   (refine hK _ ?_; clear hK K; (skip))
   (refine AW.seq_k ?_; intro K hK)
   refine AW.block ?_
   (refine AW.seq_k ?_; intro K hK)
   refine AW.quiet mix (by kernel_rfl) ?_
   refine aqP (op_move rfl rfl) ?_
   refine aqP (op_move rfl rfl) ?_
   (refine aqP (op_ia_ro i rfl (.inl rfl) rfl Try.underlying23 rfl (get_of hci) (by exact sz77) (bl rfl)) ?_)
   (refine aqR (op_load_rop rfl rfl ag77 sz77 (bl rfl) (by decide) rfl) ?_)
   (refine aqR (op_load_ptr rfl rfl rfl rfl ag29 sz29 (bl rfl) rfl) ?_)
   refine aqQ (op_callQ (b := true) rfl en88 (C88 (c := c) (p := p) hcl) (RL.cons (by exact View.same rfl) (RL.cons (by exact View.same rfl) (RL.nil))) rfl) ?_; (simp only [nA, ↓reduceIte])
   refine AQ.nil ?_
   (refine hK _ ?_; clear hK K; (skip))
   refine AW.cond rfl rfl rfl (fun hc => ?_) (fun hc => ?_)
   ·
    (try simp only [hcS] at hc); have hc2 := hc
    (refine AW.seq_k ?_; intro K hK)
    refine AW.region ?_
    refine awP (op_move rfl rfl) ?_
    refine awP (op_move rfl rfl) ?_
    (refine awP (op_ia_ro i rfl (.inl rfl) rfl Try.underlying23 rfl (get_of hci) (by exact sz77) (bl rfl)) ?_)
    (refine awP (op_fa_rop rfl rfl fl77_0 (by exact sz3) (by decide) (bl rfl) rfl) ?_)
    (refine awR (op_load_rop1 rfl rfl ag3) ?_)
    refine awP (op_assign rfl rfl) ?_
    refine awP (op_assign rfl rfl) ?_
    refine AWL.nil ?_
    (refine hK _ ?_; clear hK K; (simp only [nA, ↓reduceIte]))
    skip
    refine AW.ret ?_; (simp only [thenE, inBlk, Nat.reduceEqDiff, ↓reduceIte]); rw [find_yes hci hI.2 hc2]; exact RQ.of0 rfl (.tmp (bl rfl) rfl rfl (.tmp (bl rfl) rfl rfl .nil))
   (try simp only [hcS] at hc); have hc2 := hc
   refine AW.skip ?_
   simp only [thenE, inBlk, Nat.reduceEqDiff, ↓reduceIte]
   (refine hK _ ?_; clear hK K; (skip))
   refine AW.region ?_
   refine awP (op_move rfl rfl) ?_
   (refine awP (op_addi rfl rfl rfl (by omega)) ?_)
   refine awP (op_assign rfl rfl) ?_
   skip
   refine AWL.nil ?_
   refine ⟨i + 1, ⟨by omega, fun k h hk => by rcases Nat.lt_or_ge k i with h' | h'; exact hI.2 k h h'; (obtain rfl : k = i := by omega); (rw [(List.getElem?_eq_some_iff.1 hci).2]; exact hc2)⟩, by omega, ⟨rfl, rfl, rfl, trivial⟩, (by rfl), (by rfl)⟩
  (try simp only [hcS] at hc); have hc1 := hc
  refine AW.exit ?_; (simp only [thenE, inBlk, Nat.reduceEqDiff, ↓reduceIte])
  clear hK K
  (refine hK _ ?_; clear hK K; (skip))
  (refine AW.seq_k ?_; intro K hK)
  refine AW.region ?_
  refine awP (op_assign rfl rfl) ?_
  refine awP (op_assign rfl rfl) ?_
  refine AWL.nil ?_
  (refine hK _ ?_; clear hK K; (simp only [nA, Nat.reduceBEq, Nat.reduceEqDiff, ↓reduceIte, Nat.reduceAdd, Nat.reduceSub]))
  skip
  refine AW.ret ?_; rw [find_none (xs := xs) (p := p) (fun k h => hI.2 k h (by simp at hc1; omega))]; exact RQ.of0 rfl (.tmp (bl rfl) rfl rfl (.tmp (bl rfl) rfl rfl .nil))
end Go.Proofs.Ytdnofpggdddimaa
namespace Go.Proofs.Ytdnofpggdddimaa
open Go.RowKit
set_option linter.unusedSimpArgs false
set_option linter.unusedVariables false
set_option maxRecDepth 100000
structure Grant where
  piece : Piece
  flight : Flight
structure Op where
  time : Int
  device : Int
  seq : Int
  kind : Int
  cont : Int
  piece : Piece
structure Hand where
  number : Int
  next : Int
  last : Int
  offline : Bool
  grants : List Grant
  conts : List Container
  log : List Op
abbrev Grant.av (g : Grant) : List AV := [.v (.int .i64 g.piece.plate.lead), .v (.int .i64 g.piece.plate.airline), .v (.int .i64 g.piece.plate.serial), .v (.int .i64 g.piece.weight), .v (.int .i64 g.piece.category), .v (.string g.flight.carrier), .v (.int .i64 g.flight.number), .v (.string g.flight.suffix), .v (.int .i64 g.flight.day)]
abbrev Op.av (o : Op) : List AV := [.v (.int .i64 o.time), .v (.int .i64 o.device), .v (.int .i64 o.seq), .v (.int .i64 o.kind), .v (.int .i64 o.cont), .v (.int .i64 o.piece.plate.lead), .v (.int .i64 o.piece.plate.airline), .v (.int .i64 o.piece.plate.serial), .v (.int .i64 o.piece.weight), .v (.int .i64 o.piece.category)]
abbrev Hand.av (h : Hand) : List AV := [.v (.int .i64 h.number), .v (.int .i64 h.next), .v (.int .i64 h.last), .v (.bool h.offline), .ro (h.grants.map Grant.av), .ro (h.conts.map Container.av), .ro (h.log.map Op.av)]
/-- The lists are small. -/
structure Hand.Sm (h : Hand) : Prop where
  g : h.grants.length ≤ 1000
  c : h.conts.length ≤ 1000
  l : h.log.length ≤ 1000
  p : ∀ c ∈ h.conts, c.pieces.length ≤ 1000
theorem C43 {n lo hi : Int} : Fn Try.prog 43 [] [.v (.int .i64 n), .v (.int .i64 lo), .v (.int .i64 hi)] [.v (.bool (inB n lo hi))] [] := by
  refine Spec.body Try.func43 rfl Try.ntmps43 (by simp) rfl ?_; intro S0 own0 v0 w0
  (refine AW.seq_k ?_; intro K hK)
  refine AW.region ?_
  refine awP (op_assign rfl rfl) ?_
  refine AWL.nil ?_
  (refine hK _ ?_; clear hK K; (simp only [nA, Nat.reduceBEq, Nat.reduceEqDiff, ↓reduceIte, Nat.reduceAdd, Nat.reduceSub]))
  (refine AW.seq_k ?_; intro K hK)
  refine AW.region (AWL.quiet ?_)
  refine aqP (op_move rfl rfl) ?_
  refine aqP (op_move rfl rfl) ?_
  refine aqP (op_geq rfl rfl rfl) ?_
  refine aqP (op_move rfl rfl) ?_
  refine' aqAnd' [_, _, _] [11,12,13] rfl rfl rfl rfl rfl rfl rfl rfl rfl rfl rfl rfl (fun hb => ?_) ?_; rotate_left
  ·
   (try simp only [hcS] at hb)
   refine aqP (op_move rfl rfl) ?_
   refine aqP (op_move rfl rfl) ?_
   refine aqP (op_leq rfl rfl rfl) ?_
   (refine aqSeg rfl rfl rfl ?_; repeat (first | exact fun _ _ => rfl | refine upd_out rfl ?_))
  simp only [nA, ↓reduceIte]
  refine aqP (op_assign rfl rfl) ?_
  refine AQ.nil ?_
  (refine hK _ ?_; clear hK K; (simp only [nA]))
  skip
  refine AW.ret ?_; exact RQ.of0 rfl (.tmp (bl rfl) rfl rfl .nil)
theorem C54 {p : Piece} : Fn Try.prog 54 [] [.agg p.av] [.v (.bool (piB p))] [] := by
  refine Spec.body Try.func54 rfl Try.ntmps54 (by simp) rfl ?_; intro S0 own0 v0 w0
  (refine AW.seq_k ?_; intro K hK)
  refine AW.region ?_
  refine awJ (op_box rfl rfl rfl sz31 rfl) ?_; (simp only [nA, Nat.reduceBEq, Nat.reduceEqDiff, ↓reduceIte])
  refine awP (op_assign rfl rfl) ?_
  refine AWL.nil ?_
  (refine hK _ ?_; clear hK K; (simp only [nA, Nat.reduceBEq, Nat.reduceEqDiff, ↓reduceIte, Nat.reduceAdd, Nat.reduceSub]))
  (refine AW.seq_k ?_; intro K hK)
  refine AW.region (AWL.quiet ?_)
  (refine aqP (op_fa_ptr rfl rfl rfl fl31_0 (by exact sz29) (by decide) rfl) ?_)
  (refine aqR (op_load_ptr rfl rfl rfl rfl ag29 sz29 (bl rfl) rfl) ?_)
  refine aqQ (op_callQ (b := true) rfl en72 (C72 (p := p.plate)) (RL.cons (by exact View.same rfl) (RL.nil)) rfl) ?_; (simp only [nA, Nat.reduceBEq, Nat.reduceEqDiff, ↓reduceIte, Nat.reduceAdd, Nat.reduceSub])
  refine aqP (op_move rfl rfl) ?_
  refine' aqAnd' [_, _, _] [7,8,9] rfl rfl rfl rfl rfl rfl rfl rfl rfl rfl rfl rfl (fun hb => ?_) ?_; rotate_left
  ·
   (try simp only [hcS] at hb)
   (refine aqP (op_fa_ptr rfl rfl rfl fl31_1 (by exact sz3) (by decide) rfl) ?_)
   (refine aqR (op_load_ptr1 rfl rfl rfl rfl ag3 rfl rfl) ?_)
   refine aqQ (op_callQ (b := true) rfl en43 (C43) (RL.cons (by exact View.same rfl) (RL.cons (by exact View.same rfl) (RL.cons (by exact View.same rfl) (RL.nil)))) rfl) ?_; (simp only [nA])
   (refine aqSeg rfl rfl rfl ?_; repeat (first | exact fun _ _ => rfl | refine upd_out rfl ?_))
  simp only [nA]
  refine aqP (op_move rfl rfl) ?_
  refine' aqAnd' [_, _, _] [12,13,14] rfl rfl rfl rfl rfl rfl rfl rfl rfl rfl rfl rfl (fun hb => ?_) ?_; rotate_left
  ·
   (try simp only [hcS] at hb)
   (refine aqP (op_fa_ptr rfl rfl rfl fl31_2 (by exact sz3) (by decide) rfl) ?_)
   (refine aqR (op_load_ptr1 rfl rfl rfl rfl ag3 rfl rfl) ?_)
   refine aqQ (op_callQ (b := true) rfl en43 (C43) (RL.cons (by exact View.same rfl) (RL.cons (by exact View.same rfl) (RL.cons (by exact View.same rfl) (RL.nil)))) rfl) ?_; (simp only [nA])
   (refine aqSeg rfl rfl rfl ?_; repeat (first | exact fun _ _ => rfl | refine upd_out rfl ?_))
  simp only [nA]
  refine aqP (op_assign rfl rfl) ?_
  refine AQ.nil ?_
  (refine hK _ ?_; clear hK K; (simp only [nA]))
  skip
  refine AW.ret ?_; exact RQ.of0 rfl (.tmp (bl rfl) rfl rfl .nil)
def opB (o : Op) : Bool := if (!inB o.time 0 1048576 || !inB o.device 1 6) || !inB o.seq 1 1048576 then false else ((decide (o.kind = 1) || decide (o.kind = 2)) && inB o.cont 1 999) && piB o.piece
theorem C20 {o : Op} : Fn Try.prog 20 [] [.agg o.av] [.v (.bool (opB o))] [] := by
  refine Spec.body Try.func20 rfl Try.ntmps20 (by simp) rfl ?_; intro S0 own0 v0 w0
  (refine AW.seq_k ?_; intro K hK)
  refine AW.region ?_
  refine awJ (op_box rfl rfl rfl sz33 rfl) ?_; (simp only [nA, Nat.reduceBEq, Nat.reduceEqDiff, ↓reduceIte])
  refine awP (op_assign rfl rfl) ?_
  refine AWL.nil ?_
  (refine hK _ ?_; clear hK K; (simp only [nA, Nat.reduceBEq, Nat.reduceEqDiff, ↓reduceIte, Nat.reduceAdd, Nat.reduceSub]))
  (refine AW.seq_k ?_; intro K hK)
  (refine AW.seq_k ?_; intro K hK)
  refine AW.region (AWL.quiet ?_)
  (refine aqP (op_fa_ptr rfl rfl rfl fl33_0 (by exact sz3) (by decide) rfl) ?_)
  (refine aqR (op_load_ptr1 rfl rfl rfl rfl ag3 rfl rfl) ?_)
  refine aqQ (op_callQ (b := true) rfl en43 (C43) (RL.cons (by exact View.same rfl) (RL.cons (by exact View.same rfl) (RL.cons (by exact View.same rfl) (RL.nil)))) rfl) ?_; (simp only [nA, Nat.reduceBEq, Nat.reduceEqDiff, ↓reduceIte, Nat.reduceAdd, Nat.reduceSub])
  refine aqP (op_not rfl rfl rfl) ?_
  refine aqP (op_move rfl rfl) ?_
  refine' aqOr' [_, _, _, _] [8,9,10,11] rfl rfl rfl rfl rfl rfl rfl rfl rfl rfl rfl rfl (fun hb => ?_) ?_; rotate_left
  ·
   (try simp only [hcS] at hb)
   (refine aqP (op_fa_ptr rfl rfl rfl fl33_1 (by exact sz3) (by decide) rfl) ?_)
   (refine aqR (op_load_ptr1 rfl rfl rfl rfl ag3 rfl rfl) ?_)
   refine aqQ (op_callQ (b := true) rfl en43 (C43) (RL.cons (by exact View.same rfl) (RL.cons (by exact View.same rfl) (RL.cons (by exact View.same rfl) (RL.nil)))) rfl) ?_; (simp only [nA])
   refine aqP (op_not rfl rfl rfl) ?_
   (refine aqSeg rfl rfl rfl ?_; repeat (first | exact fun _ _ => rfl | refine upd_out rfl ?_))
  simp only [nA]
  refine aqP (op_move rfl rfl) ?_
  refine' aqOr' [_, _, _, _] [14,15,16,17] rfl rfl rfl rfl rfl rfl rfl rfl rfl rfl rfl rfl (fun hb => ?_) ?_; rotate_left
  ·
   (try simp only [hcS] at hb)
   (refine aqP (op_fa_ptr rfl rfl rfl fl33_2 (by exact sz3) (by decide) rfl) ?_)
   (refine aqR (op_load_ptr1 rfl rfl rfl rfl ag3 rfl rfl) ?_)
   refine aqQ (op_callQ (b := true) rfl en43 (C43) (RL.cons (by exact View.same rfl) (RL.cons (by exact View.same rfl) (RL.cons (by exact View.same rfl) (RL.nil)))) rfl) ?_; (simp only [nA])
   refine aqP (op_not rfl rfl rfl) ?_
   (refine aqSeg rfl rfl rfl ?_; repeat (first | exact fun _ _ => rfl | refine upd_out rfl ?_))
  simp only [nA]
  refine AQ.nil ?_
  (refine hK _ ?_; clear hK K; (skip))
  refine AW.cond rfl rfl rfl (fun hc => ?_) (fun hc => ?_)
  ·
   (try simp only [hcS] at hc); have hc1 := hc
   (refine AW.seq_k ?_; intro K hK)
   refine AW.region ?_
   refine awP (op_assign rfl rfl) ?_
   refine AWL.nil ?_
   (refine hK _ ?_; clear hK K; (simp only [nA, Nat.reduceBEq, Nat.reduceEqDiff, ↓reduceIte, Nat.reduceAdd, Nat.reduceSub]))
   skip
   refine AW.ret ?_; (simp only [thenE, inBlk, Nat.reduceEqDiff, ↓reduceIte]); rw [show opB o = false by unfold opB; rw [if_pos (by simpa using hc)]]; exact RQ.of0 rfl (.tmp (bl rfl) rfl rfl .nil)
  (try simp only [hcS] at hc); have hc1 := hc
  refine AW.skip ?_
  (refine hK _ ?_; clear hK K; (skip))
  (refine AW.seq_k ?_; intro K hK)
  refine AW.region (AWL.quiet ?_)
  (refine aqP (op_fa_ptr rfl rfl rfl fl33_3 (by exact sz3) (by decide) rfl) ?_)
  (refine aqR (op_load_ptr1 rfl rfl rfl rfl ag3 rfl rfl) ?_)
  (refine aqP (op_eql rfl rfl rfl) ?_)
  refine aqP (op_move rfl rfl) ?_
  refine' aqOr' [_, _, _] [23,24,25] rfl rfl rfl rfl rfl rfl rfl rfl rfl rfl rfl rfl (fun hb => ?_) ?_; rotate_left
  ·
   (try simp only [hcS] at hb)
   (refine aqP (op_fa_ptr rfl rfl rfl fl33_3 (by exact sz3) (by decide) rfl) ?_)
   (refine aqR (op_load_ptr1 rfl rfl rfl rfl ag3 rfl rfl) ?_)
   (refine aqP (op_eql rfl rfl rfl) ?_)
   (refine aqSeg rfl rfl rfl ?_; repeat (first | exact fun _ _ => rfl | refine upd_out rfl ?_))
  simp only [nA]
  refine aqP (op_move rfl rfl) ?_
  refine' aqAnd' [_, _, _] [28,29,30] rfl rfl rfl rfl rfl rfl rfl rfl rfl rfl rfl rfl (fun hb => ?_) ?_; rotate_left
  ·
   (try simp only [hcS] at hb)
   (refine aqP (op_fa_ptr rfl rfl rfl fl33_4 (by exact sz3) (by decide) rfl) ?_)
   (refine aqR (op_load_ptr1 rfl rfl rfl rfl ag3 rfl rfl) ?_)
   refine aqQ (op_callQ (b := true) rfl en43 (C43) (RL.cons (by exact View.same rfl) (RL.cons (by exact View.same rfl) (RL.cons (by exact View.same rfl) (RL.nil)))) rfl) ?_; (simp only [nA])
   (refine aqSeg rfl rfl rfl ?_; repeat (first | exact fun _ _ => rfl | refine upd_out rfl ?_))
  simp only [nA]
  refine aqP (op_move rfl rfl) ?_
  refine' aqAnd' [_, _, _] [33,34,35] rfl rfl rfl rfl rfl rfl rfl rfl rfl rfl rfl rfl (fun hb => ?_) ?_; rotate_left
  ·
   (try simp only [hcS] at hb)
   (refine aqP (op_fa_ptr rfl rfl rfl fl33_5 (by exact sz31) (by decide) rfl) ?_)
   (refine aqR (op_load_ptr rfl rfl rfl rfl ag31 sz31 (bl rfl) rfl) ?_)
   refine aqQ (op_callQ (b := true) rfl en54 (C54 (p := o.piece)) (RL.cons (by exact View.same rfl) (RL.nil)) rfl) ?_; (simp only [nA])
   (refine aqSeg rfl rfl rfl ?_; repeat (first | exact fun _ _ => rfl | refine upd_out rfl ?_))
  simp only [nA]
  refine aqP (op_assign rfl rfl) ?_
  refine AQ.nil ?_
  (refine hK _ ?_; clear hK K; (simp only [nA]))
  skip
  refine AW.ret ?_; rw [show opB o = (((decide (o.kind = 1) || decide (o.kind = 2)) && inB o.cont 1 999) && piB o.piece) by unfold opB; rw [if_neg (by simpa using hc1)]]; exact RQ.of0 rfl (.tmp (bl rfl) rfl rfl .nil)
def opR (o : Op) : Bool := (((((((((decide (o.time ≥ 0) && decide (o.time ≤ 1048576)) && decide (o.device ≥ 1)) && decide (o.device ≤ 6)) && decide (o.seq ≥ 1)) && decide (o.seq ≤ 1048576)) && (decide (o.kind = 1) || decide (o.kind = 2))) && decide (o.cont ≥ 1)) && decide (o.cont ≤ 999))) && piB o.piece
theorem opR_eq (o : Op) : opR o = opB o := by
  unfold opR opB inB
  generalize decide (o.time ≥ 0) = b1
  generalize decide (o.time ≤ 1048576) = b2
  generalize decide (o.device ≥ 1) = b3
  generalize decide (o.device ≤ 6) = b4
  generalize decide (o.seq ≥ 1) = b5
  generalize decide (o.seq ≤ 1048576) = b6
  cases b1 <;> cases b2 <;> cases b3 <;> cases b4 <;> cases b5 <;> cases b6 <;> simp [Bool.and_assoc]
theorem C21r {o : Op} : Fn Try.prog 21 [] [.agg o.av] [.v (.bool (opR o))] [] := by
  refine Spec.body Try.func21 rfl Try.ntmps21 (by simp) rfl ?_; intro S0 own0 v0 w0
  (refine AW.seq_k ?_; intro K hK)
  refine AW.region ?_
  refine awJ (op_box rfl rfl rfl sz33 rfl) ?_; (simp only [nA, Nat.reduceBEq, Nat.reduceEqDiff, ↓reduceIte])
  refine awP (op_assign rfl rfl) ?_
  refine AWL.nil ?_
  (refine hK _ ?_; clear hK K; (simp only [nA, Nat.reduceBEq, Nat.reduceEqDiff, ↓reduceIte, Nat.reduceAdd, Nat.reduceSub]))
  (refine AW.seq_k ?_; intro K hK)
  refine AW.region (AWL.quiet ?_)
  (refine aqP (op_fa_ptr rfl rfl rfl fl33_0 (by exact sz3) (by decide) rfl) ?_)
  (refine aqR (op_load_ptr1 rfl rfl rfl rfl ag3 rfl rfl) ?_)
  refine aqP (op_geq rfl rfl rfl) ?_
  refine aqP (op_move rfl rfl) ?_
  refine' aqAnd' [_, _, _] [7,8,9] rfl rfl rfl rfl rfl rfl rfl rfl rfl rfl rfl rfl (fun hb => ?_) ?_; rotate_left
  ·
   (try simp only [hcS] at hb)
   (refine aqP (op_fa_ptr rfl rfl rfl fl33_0 (by exact sz3) (by decide) rfl) ?_)
   (refine aqR (op_load_ptr1 rfl rfl rfl rfl ag3 rfl rfl) ?_)
   refine aqP (op_leq rfl rfl rfl) ?_
   (refine aqSeg rfl rfl rfl ?_; repeat (first | exact fun _ _ => rfl | refine upd_out rfl ?_))
  simp only [nA]
  refine aqP (op_move rfl rfl) ?_
  refine' aqAnd' [_, _, _] [12,13,14] rfl rfl rfl rfl rfl rfl rfl rfl rfl rfl rfl rfl (fun hb => ?_) ?_; rotate_left
  ·
   (try simp only [hcS] at hb)
   (refine aqP (op_fa_ptr rfl rfl rfl fl33_1 (by exact sz3) (by decide) rfl) ?_)
   (refine aqR (op_load_ptr1 rfl rfl rfl rfl ag3 rfl rfl) ?_)
   refine aqP (op_geq rfl rfl rfl) ?_
   (refine aqSeg rfl rfl rfl ?_; repeat (first | exact fun _ _ => rfl | refine upd_out rfl ?_))
  simp only [nA]
  refine aqP (op_move rfl rfl) ?_
  refine' aqAnd' [_, _, _] [17,18,19] rfl rfl rfl rfl rfl rfl rfl rfl rfl rfl rfl rfl (fun hb => ?_) ?_; rotate_left
  ·
   (try simp only [hcS] at hb)
   (refine aqP (op_fa_ptr rfl rfl rfl fl33_1 (by exact sz3) (by decide) rfl) ?_)
   (refine aqR (op_load_ptr1 rfl rfl rfl rfl ag3 rfl rfl) ?_)
   refine aqP (op_leq rfl rfl rfl) ?_
   (refine aqSeg rfl rfl rfl ?_; repeat (first | exact fun _ _ => rfl | refine upd_out rfl ?_))
  simp only [nA]
  refine aqP (op_move rfl rfl) ?_
  refine' aqAnd' [_, _, _] [22,23,24] rfl rfl rfl rfl rfl rfl rfl rfl rfl rfl rfl rfl (fun hb => ?_) ?_; rotate_left
  ·
   (try simp only [hcS] at hb)
   (refine aqP (op_fa_ptr rfl rfl rfl fl33_2 (by exact sz3) (by decide) rfl) ?_)
   (refine aqR (op_load_ptr1 rfl rfl rfl rfl ag3 rfl rfl) ?_)
   refine aqP (op_geq rfl rfl rfl) ?_
   (refine aqSeg rfl rfl rfl ?_; repeat (first | exact fun _ _ => rfl | refine upd_out rfl ?_))
  simp only [nA]
  refine aqP (op_move rfl rfl) ?_
  refine' aqAnd' [_, _, _] [27,28,29] rfl rfl rfl rfl rfl rfl rfl rfl rfl rfl rfl rfl (fun hb => ?_) ?_; rotate_left
  ·
   (try simp only [hcS] at hb)
   (refine aqP (op_fa_ptr rfl rfl rfl fl33_2 (by exact sz3) (by decide) rfl) ?_)
   (refine aqR (op_load_ptr1 rfl rfl rfl rfl ag3 rfl rfl) ?_)
   refine aqP (op_leq rfl rfl rfl) ?_
   (refine aqSeg rfl rfl rfl ?_; repeat (first | exact fun _ _ => rfl | refine upd_out rfl ?_))
  simp only [nA]
  refine aqP (op_move rfl rfl) ?_
  refine' aqAndN' [_, _, _, _, _, _, _, _] [32,33,34,35,36,37,38,39] rfl rfl rfl rfl rfl rfl rfl rfl rfl rfl rfl rfl (fun hb => ?_) ?_; rotate_left
  ·
   (try simp only [hcS] at hb)
   (refine aqP (op_fa_ptr rfl rfl rfl fl33_3 (by exact sz3) (by decide) rfl) ?_)
   (refine aqR (op_load_ptr1 rfl rfl rfl rfl ag3 rfl rfl) ?_)
   (refine aqP (op_eql rfl rfl rfl) ?_)
   refine aqP (op_move rfl rfl) ?_
   refine' aqOr' [_, _, _] [36,37,38] rfl rfl rfl rfl rfl rfl rfl rfl rfl rfl rfl rfl (fun hb => ?_) ?_; rotate_left
   ·
    (try simp only [hcS] at hb)
    (refine aqP (op_fa_ptr rfl rfl rfl fl33_3 (by exact sz3) (by decide) rfl) ?_)
    (refine aqR (op_load_ptr1 rfl rfl rfl rfl ag3 rfl rfl) ?_)
    (refine aqP (op_eql rfl rfl rfl) ?_)
    (refine aqSeg rfl rfl rfl ?_; repeat (first | exact fun _ _ => rfl | refine upd_out rfl ?_))
   simp only [nA]
   (refine aqSeg rfl rfl rfl ?_; repeat (first | exact fun _ _ => rfl | refine upd_out rfl ?_ | refine era_out rfl ?_))
  simp only [nA]
  refine aqP (op_move rfl rfl) ?_
  refine' aqAnd' [_, _, _] [42,43,44] rfl rfl rfl rfl rfl rfl rfl rfl rfl rfl rfl rfl (fun hb => ?_) ?_; rotate_left
  ·
   (try simp only [hcS] at hb)
   (refine aqP (op_fa_ptr rfl rfl rfl fl33_4 (by exact sz3) (by decide) rfl) ?_)
   (refine aqR (op_load_ptr1 rfl rfl rfl rfl ag3 rfl rfl) ?_)
   refine aqP (op_geq rfl rfl rfl) ?_
   (refine aqSeg rfl rfl rfl ?_; repeat (first | exact fun _ _ => rfl | refine upd_out rfl ?_))
  simp only [nA]
  refine aqP (op_move rfl rfl) ?_
  refine' aqAnd' [_, _, _] [47,48,49] rfl rfl rfl rfl rfl rfl rfl rfl rfl rfl rfl rfl (fun hb => ?_) ?_; rotate_left
  ·
   (try simp only [hcS] at hb)
   (refine aqP (op_fa_ptr rfl rfl rfl fl33_4 (by exact sz3) (by decide) rfl) ?_)
   (refine aqR (op_load_ptr1 rfl rfl rfl rfl ag3 rfl rfl) ?_)
   refine aqP (op_leq rfl rfl rfl) ?_
   (refine aqSeg rfl rfl rfl ?_; repeat (first | exact fun _ _ => rfl | refine upd_out rfl ?_))
  simp only [nA]
  refine aqP (op_move rfl rfl) ?_
  refine' aqAnd' [_, _, _] [52,53,54] rfl rfl rfl rfl rfl rfl rfl rfl rfl rfl rfl rfl (fun hb => ?_) ?_; rotate_left
  ·
   (try simp only [hcS] at hb)
   (refine aqP (op_fa_ptr rfl rfl rfl fl33_5 (by exact sz31) (by decide) rfl) ?_)
   (refine aqR (op_load_ptr rfl rfl rfl rfl ag31 sz31 (bl rfl) rfl) ?_)
   refine aqQ (op_callQ (b := true) rfl en55 (C55 (p := o.piece)) (RL.cons (by exact View.same rfl) (RL.nil)) rfl) ?_; (simp only [nA])
   (refine aqSeg rfl rfl rfl ?_; repeat (first | exact fun _ _ => rfl | refine upd_out rfl ?_))
  simp only [nA]
  refine aqP (op_assign rfl rfl) ?_
  refine AQ.nil ?_
  (refine hK _ ?_; clear hK K; (simp only [nA]))
  skip
  refine AW.ret ?_; exact RQ.of0 rfl (.tmp (bl rfl) rfl rfl .nil)
theorem C21 {o : Op} : Fn Try.prog 21 [] [.agg o.av] [.v (.bool (opB o))] [] := by
  rw [← opR_eq]; exact C21r
def grB (g : Grant) : Bool := piB g.piece && flB g.flight
theorem C62 {g : Grant} : Fn Try.prog 62 [] [.agg g.av] [.v (.bool (grB g))] [] := by
  refine Spec.body Try.func62 rfl Try.ntmps62 (by simp) rfl ?_; intro S0 own0 v0 w0
  (refine AW.seq_k ?_; intro K hK)
  refine AW.region ?_
  refine awJ (op_box rfl rfl rfl sz75 rfl) ?_; (simp only [nA, Nat.reduceBEq, Nat.reduceEqDiff, ↓reduceIte])
  refine awP (op_assign rfl rfl) ?_
  refine AWL.nil ?_
  (refine hK _ ?_; clear hK K; (simp only [nA, Nat.reduceBEq, Nat.reduceEqDiff, ↓reduceIte, Nat.reduceAdd, Nat.reduceSub]))
  (refine AW.seq_k ?_; intro K hK)
  refine AW.region (AWL.quiet ?_)
  (refine aqP (op_fa_ptr rfl rfl rfl fl75_0 (by exact sz31) (by decide) rfl) ?_)
  (refine aqR (op_load_ptr rfl rfl rfl rfl ag31 sz31 (bl rfl) rfl) ?_)
  refine aqQ (op_callQ (b := true) rfl en54 (C54 (p := g.piece)) (RL.cons (by exact View.same rfl) (RL.nil)) rfl) ?_; (simp only [nA, Nat.reduceBEq, Nat.reduceEqDiff, ↓reduceIte, Nat.reduceAdd, Nat.reduceSub])
  refine aqP (op_move rfl rfl) ?_
  refine' aqAnd' [_, _, _] [7,8,9] rfl rfl rfl rfl rfl rfl rfl rfl rfl rfl rfl rfl (fun hb => ?_) ?_; rotate_left
  ·
   (try simp only [hcS] at hb)
   (refine aqP (op_fa_ptr rfl rfl rfl fl75_1 (by exact sz73) (by decide) rfl) ?_)
   (refine aqR (op_load_ptr rfl rfl rfl rfl ag73 sz73 (bl rfl) rfl) ?_)
   refine aqQ (op_callQ (b := true) rfl en80 (C80 (f := g.flight)) (RL.cons (by exact View.same rfl) (RL.nil)) rfl) ?_; (simp only [nA])
   (refine aqSeg rfl rfl rfl ?_; repeat (first | exact fun _ _ => rfl | refine upd_out rfl ?_))
  simp only [nA]
  refine aqP (op_assign rfl rfl) ?_
  refine AQ.nil ?_
  (refine hK _ ?_; clear hK K; (simp only [nA]))
  skip
  refine AW.ret ?_; exact RQ.of0 rfl (.tmp (bl rfl) rfl rfl .nil)
theorem C67 {g : Grant} : Fn Try.prog 67 [] [.agg g.av] [.v (.bool (grB g))] [] := by
  refine Spec.body Try.func67 rfl Try.ntmps67 (by simp) rfl ?_; intro S0 own0 v0 w0
  (refine AW.seq_k ?_; intro K hK)
  refine AW.region ?_
  refine awJ (op_box rfl rfl rfl sz75 rfl) ?_; (simp only [nA, Nat.reduceBEq, Nat.reduceEqDiff, ↓reduceIte])
  refine awP (op_assign rfl rfl) ?_
  refine AWL.nil ?_
  (refine hK _ ?_; clear hK K; (simp only [nA, Nat.reduceBEq, Nat.reduceEqDiff, ↓reduceIte, Nat.reduceAdd, Nat.reduceSub]))
  (refine AW.seq_k ?_; intro K hK)
  refine AW.region (AWL.quiet ?_)
  (refine aqP (op_fa_ptr rfl rfl rfl fl75_0 (by exact sz31) (by decide) rfl) ?_)
  (refine aqR (op_load_ptr rfl rfl rfl rfl ag31 sz31 (bl rfl) rfl) ?_)
  refine aqQ (op_callQ (b := true) rfl en55 (C55 (p := g.piece)) (RL.cons (by exact View.same rfl) (RL.nil)) rfl) ?_; (simp only [nA, Nat.reduceBEq, Nat.reduceEqDiff, ↓reduceIte, Nat.reduceAdd, Nat.reduceSub])
  refine aqP (op_move rfl rfl) ?_
  refine' aqAnd' [_, _, _] [7,8,9] rfl rfl rfl rfl rfl rfl rfl rfl rfl rfl rfl rfl (fun hb => ?_) ?_; rotate_left
  ·
   (try simp only [hcS] at hb)
   (refine aqP (op_fa_ptr rfl rfl rfl fl75_1 (by exact sz73) (by decide) rfl) ?_)
   (refine aqR (op_load_ptr rfl rfl rfl rfl ag73 sz73 (bl rfl) rfl) ?_)
   refine aqQ (op_callQ (b := true) rfl en85 (C85 (f := g.flight)) (RL.cons (by exact View.same rfl) (RL.nil)) rfl) ?_; (simp only [nA])
   (refine aqSeg rfl rfl rfl ?_; repeat (first | exact fun _ _ => rfl | refine upd_out rfl ?_))
  simp only [nA]
  refine aqP (op_assign rfl rfl) ?_
  refine AQ.nil ?_
  (refine hK _ ?_; clear hK K; (simp only [nA]))
  skip
  refine AW.ret ?_; exact RQ.of0 rfl (.tmp (bl rfl) rfl rfl .nil)
def numB (h : Hand) : Bool := (inB h.number 1 6 && inB h.next 1 1048576) && inB h.last 0 1048576
theorem C46 {h : Hand} : Fn Try.prog 46 [] [.agg h.av] [.v (.bool (numB h))] [] := by
  refine Spec.body Try.func46 rfl Try.ntmps46 (by simp) rfl ?_; intro S0 own0 v0 w0
  (refine AW.seq_k ?_; intro K hK)
  refine AW.region ?_
  refine awJ (op_box rfl rfl rfl sz87 rfl) ?_; (simp only [nA, Nat.reduceBEq, Nat.reduceEqDiff, ↓reduceIte])
  refine awP (op_assign rfl rfl) ?_
  refine AWL.nil ?_
  (refine hK _ ?_; clear hK K; (simp only [nA, Nat.reduceBEq, Nat.reduceEqDiff, ↓reduceIte, Nat.reduceAdd, Nat.reduceSub]))
  (refine AW.seq_k ?_; intro K hK)
  refine AW.region (AWL.quiet ?_)
  (refine aqP (op_fa_ptr rfl rfl rfl fl87_0 (by exact sz3) (by decide) rfl) ?_)
  (refine aqR (op_load_ptr1 rfl rfl rfl rfl ag3 rfl rfl) ?_)
  refine aqQ (op_callQ (b := true) rfl en43 (C43) (RL.cons (by exact View.same rfl) (RL.cons (by exact View.same rfl) (RL.cons (by exact View.same rfl) (RL.nil)))) rfl) ?_; (simp only [nA, Nat.reduceBEq, Nat.reduceEqDiff, ↓reduceIte, Nat.reduceAdd, Nat.reduceSub])
  refine aqP (op_move rfl rfl) ?_
  refine' aqAnd' [_, _, _] [7,8,9] rfl rfl rfl rfl rfl rfl rfl rfl rfl rfl rfl rfl (fun hb => ?_) ?_; rotate_left
  ·
   (try simp only [hcS] at hb)
   (refine aqP (op_fa_ptr rfl rfl rfl fl87_1 (by exact sz3) (by decide) rfl) ?_)
   (refine aqR (op_load_ptr1 rfl rfl rfl rfl ag3 rfl rfl) ?_)
   refine aqQ (op_callQ (b := true) rfl en43 (C43) (RL.cons (by exact View.same rfl) (RL.cons (by exact View.same rfl) (RL.cons (by exact View.same rfl) (RL.nil)))) rfl) ?_; (simp only [nA])
   (refine aqSeg rfl rfl rfl ?_; repeat (first | exact fun _ _ => rfl | refine upd_out rfl ?_))
  simp only [nA]
  refine aqP (op_move rfl rfl) ?_
  refine' aqAnd' [_, _, _] [12,13,14] rfl rfl rfl rfl rfl rfl rfl rfl rfl rfl rfl rfl (fun hb => ?_) ?_; rotate_left
  ·
   (try simp only [hcS] at hb)
   (refine aqP (op_fa_ptr rfl rfl rfl fl87_2 (by exact sz3) (by decide) rfl) ?_)
   (refine aqR (op_load_ptr1 rfl rfl rfl rfl ag3 rfl rfl) ?_)
   refine aqQ (op_callQ (b := true) rfl en43 (C43) (RL.cons (by exact View.same rfl) (RL.cons (by exact View.same rfl) (RL.cons (by exact View.same rfl) (RL.nil)))) rfl) ?_; (simp only [nA])
   (refine aqSeg rfl rfl rfl ?_; repeat (first | exact fun _ _ => rfl | refine upd_out rfl ?_))
  simp only [nA]
  refine aqP (op_assign rfl rfl) ?_
  refine AQ.nil ?_
  (refine hK _ ?_; clear hK K; (simp only [nA]))
  skip
  refine AW.ret ?_; exact RQ.of0 rfl (.tmp (bl rfl) rfl rfl .nil)
def barB (h : Hand) : Bool := h.offline || decide (((h.grants.length : Int) + h.conts.length) + h.log.length = 0)
theorem C47 {h : Hand} (hs : h.Sm) : Fn Try.prog 47 [] [.agg h.av] [.v (.bool (barB h))] [] := by
  have h1 := hs.g; have h2 := hs.c; have h3 := hs.l
  refine Spec.body Try.func47 rfl Try.ntmps47 (by simp) rfl ?_; intro S0 own0 v0 w0
  (refine AW.seq_k ?_; intro K hK)
  refine AW.region ?_
  refine awJ (op_box rfl rfl rfl sz87 rfl) ?_; (simp only [nA, Nat.reduceBEq, Nat.reduceEqDiff, ↓reduceIte])
  refine awP (op_assign rfl rfl) ?_
  refine AWL.nil ?_
  (refine hK _ ?_; clear hK K; (simp only [nA, Nat.reduceBEq, Nat.reduceEqDiff, ↓reduceIte, Nat.reduceAdd, Nat.reduceSub]))
  (refine AW.seq_k ?_; intro K hK)
  refine AW.region (AWL.quiet ?_)
  (refine aqP (op_fa_ptr rfl rfl rfl fl87_3 (by exact sz4) (by decide) rfl) ?_)
  (refine aqR (op_load_ptr1 rfl rfl rfl rfl ag4 rfl rfl) ?_)
  refine aqP (op_move rfl rfl) ?_
  refine' aqOr' [_, _, _, _, _, _, _, _, _, _, _, _] [6,7,8,9,10,11,12,13,14,15,16,17] rfl rfl rfl rfl rfl rfl rfl rfl rfl rfl rfl rfl (fun hb => ?_) ?_; rotate_left
  ·
   (try simp only [hcS] at hb)
   (refine aqP (op_fa_ptr rfl rfl rfl fl87_4 (by exact sz22) (by decide) rfl) ?_)
   (refine aqR (op_load_ptr1 rfl rfl rfl rfl ag22 rfl rfl) ?_)
   refine aqP (op_len_ro (n := h.grants.length) rfl rfl Try.underlying22 (.inr (.inl ⟨_, rfl, by simp⟩))) ?_
   (refine aqP (op_fa_ptr rfl rfl rfl fl87_5 (by exact sz23) (by decide) rfl) ?_)
   (refine aqR (op_load_ptr1 rfl rfl rfl rfl ag23 rfl rfl) ?_)
   refine aqP (op_len_ro (n := h.conts.length) rfl rfl Try.underlying23 (.inr (.inl ⟨_, rfl, by simp⟩))) ?_
   (refine aqP (op_addi rfl rfl rfl (by omega)) ?_)
   (refine aqP (op_fa_ptr rfl rfl rfl fl87_6 (by exact sz24) (by decide) rfl) ?_)
   (refine aqR (op_load_ptr1 rfl rfl rfl rfl ag24 rfl rfl) ?_)
   refine aqP (op_len_ro (n := h.log.length) rfl rfl Try.underlying24 (.inr (.inl ⟨_, rfl, by simp⟩))) ?_
   (refine aqP (op_addi rfl rfl rfl (by omega)) ?_)
   (refine aqP (op_eql rfl rfl rfl) ?_)
   (refine aqSeg rfl rfl rfl ?_; repeat (first | exact fun _ _ => rfl | refine upd_out rfl ?_))
  simp only [nA]
  refine aqP (op_assign rfl rfl) ?_
  refine AQ.nil ?_
  (refine hK _ ?_; clear hK K; (simp only [nA]))
  skip
  refine AW.ret ?_; exact RQ.of0 rfl (.tmp (bl rfl) rfl rfl .nil)
end Go.Proofs.Ytdnofpggdddimaa
