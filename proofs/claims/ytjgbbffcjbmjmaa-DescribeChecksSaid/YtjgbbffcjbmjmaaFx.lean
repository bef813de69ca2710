import Derived.Test.YtjgbbffcjbmjmaaFu
import Derived.Test.YtjgbbffcjbmjmaaAbQ
import Derived.Test.YtjgbbffcjbmjmaaAbN
namespace Go.Proofs.Ytjgbbffcjbmjmaa
open Go.RowKit
set_option linter.unusedSimpArgs false
set_option linter.unusedVariables false

/-! ### The source's descriptions -/
abbrev sv (s : ByteArray) : List AV := [.v (.string s)]
theorem sv_flat (l : List ByteArray) : ∀ r ∈ l.map sv, ∀ c ∈ r, flatA c = true := fun r hr c hc => by
  obtain ⟨p, _, rfl⟩ := List.mem_map.1 hr
  obtain rfl : c = _ := by simpa using hc
  rfl
theorem sv_len (l : List ByteArray) : ∀ x ∈ l.map sv, x.length = 1 := fun x hx => by
  obtain ⟨p, _, rfl⟩ := List.mem_map.1 hx
  rfl
def textV (l : List Int) (k : Nat) (xs : List ByteArray) : ByteArray := xs.getD (gmod (rawV l k) (xs.length : Nat)).toNat default
theorem textV_mem {l : List Int} {k : Nat} {xs : List ByteArray} (h : 1 ≤ xs.length) : textV l k xs ∈ xs := by
  have hg := gmod_bd (x := rawV l k) (n := (xs.length : Nat)) (by omega)
  unfold textV
  rw [List.getD_eq_getElem?_getD, List.getElem?_eq_getElem (by omega)]
  exact List.getElem_mem _
theorem C31 {l : List Int} {k : Nat} {xs : List ByteArray} (hl : l.length ≤ 2000) (h1 : 1 ≤ xs.length) (h2 : xs.length ≤ 1000) : Fn Try.prog 31 [.own 58 [srcRow l k]] [.ptr 0 0 0 0, .ro (xs.map sv)] [.v (.string (textV l k xs))] [.own 58 [srcRow l (rawN l k)]] := by
  have hg := gmod_bd (x := rawV l k) (n := (xs.length : Nat)) (by omega)
  refine Spec.body Try.func31 rfl Try.ntmps31 (by simp) rfl ?_; intro S0 own0 v0 w0
  (refine AW.seq_k ?_; intro K hK)
  refine AW.region ?_
  refine awP (op_assign rfl rfl) ?_
  refine AWL.nil ?_
  (refine hK _ ?_; clear hK K; (try simp only [nA, Nat.reduceBEq, Nat.reduceEqDiff, ↓reduceIte, Nat.reduceAdd, Nat.reduceSub]))
  (refine AW.seq_k ?_; intro K hK)
  refine AW.region ?_
  refine awP (op_move rfl rfl) ?_
  refine awP (op_move rfl rfl) ?_
  refine awP (op_move rfl rfl) ?_
  refine awP (op_len_ro (n := xs.length) rfl rfl Try.underlying62 (.inr (.inl ⟨_, rfl, by simp⟩))) ?_
  refine awJ (op_call1 rfl en29 (C29 hl (n := (xs.length : Nat)) (by omega)) (by exact rfl) (RL.cons .ptr (RL.cons (.base (by first | exact View.same rfl | exact View.nil | exact View.rof | exact View.src .ro | exact View.src .rof | exact View.src (.sl rfl rfl) | exact View.ptr rfl rfl rfl)) (RL.nil))) (by exact ⟨_, _, _, rfl, rfl, rfl⟩) (by exact rfl) (by exact rfl) (by exact rfl)) ?_; (try simp only [nA, Nat.reduceBEq, Nat.reduceEqDiff, ↓reduceIte, Nat.reduceAdd, Nat.reduceSub])
  (first | refine awP (op_ia_ro (gmod (rawV l k) (xs.length : Nat)).toNat rfl (.inl rfl) rfl Try.underlying62 (by omega) (get_mapD (by omega)) (by exact sz9) (Nat.le_of_ble_eq_true rfl)) ?_ | refine awP (op_ia_sl _ _ rfl rfl rfl rfl Try.underlying62 rfl (by omega) (by exact sz9) rfl) ?_)
  (first | refine awR (op_load_ptr1 rfl rfl rfl rfl ag9 rfl rfl) ?_ | refine awR (op_load_rop1 rfl rfl ag9) ?_)
  refine awP (op_assign rfl rfl) ?_
  refine AWL.nil ?_
  (refine hK _ ?_; clear hK K; (try simp only [nA, Nat.reduceBEq, Nat.reduceEqDiff, ↓reduceIte, Nat.reduceAdd, Nat.reduceSub]))
  skip
  refine AW.ret ?_; (try simp only [thenE, inBlk, Nat.reduceEqDiff, ↓reduceIte]); exact RQ.of (.inl rfl) rfl (.tmp (Nat.le_of_ble_eq_true rfl) rfl rfl .nil) (by simp) rfl (one_out rfl)
def feas8 : List Int := [0, 1, 3, 7, 15, 255, 170, 85]
def ports4 : List ByteArray := [⟨#[]⟩, ⟨#[67,80,72]⟩, ⟨#[67,80,72]⟩, ⟨#[76,72,82]⟩]
def pats4 : List ByteArray := [⟨#[48,49,49,55,48,48,49,48,48,48]⟩, ⟨#[48,49,49,55,48,48,49,48,48,49]⟩, ⟨#[48,49,49,56,48,48,49,48,48,48]⟩, ⟨#[53,49,50,48,48,48,49,48,55,55]⟩]
def holes (l : List Int) : Nat → Nat → List UInt8 → List UInt8 × Nat
  | 0, k, b => (b, k)
  | f + 1, k, b => holes l f (rawN l k) (b.set (gmod (rawV l k) 10).toNat 63)
theorem holes_0 (l : List Int) (k : Nat) (b : List UInt8) : holes l 0 k b = (b, k) := rfl
theorem holes_s (l : List Int) (f k : Nat) (b : List UInt8) : holes l (f + 1) k b = holes l f (rawN l k) (b.set (gmod (rawV l k) 10).toNat 63) := rfl
abbrev it2 (l : List Int) (k : Nat) : Nat := rawN l (rawN l k)
abbrev it4 (l : List Int) (k : Nat) : Nat := it2 l (it2 l k)
abbrev dbase (l : List Int) (k : Nat) (p : ByteArray) : Desc := ⟨p, gmod (rawV l k) 4, gmod (rawV l (rawN l k)) 4, pickV l (it2 l k) feas8, textV l (rawN l (it2 l k)) ports4⟩
def descV (l : List Int) (k : Nat) : Desc × Nat :=
  if 0 < gmod (rawV l (it4 l k)) 3 then
    let r := holes l (gmod (rawV l (it2 l (it4 l k))) 4).toNat (rawN l (it2 l (it4 l k))) (textV l (rawN l (it4 l k)) pats4).data.toList
    (dbase l k ⟨r.1.toArray⟩, r.2)
  else (dbase l k ⟨#[]⟩, rawN l (it4 l k))
theorem pats_size {l : List Int} {k : Nat} : (textV l k pats4).size = 10 := by
  have h : ∀ s ∈ pats4, s.size = 10 := by decide
  exact h _ (textV_mem (by decide))
theorem C15 {l : List Int} {k : Nat} (hl : l.length ≤ 2000) : Fn Try.prog 15 [.own 58 [srcRow l k]] [.ptr 0 0 0 0] [.agg (descV l k).1.av] [.own 58 [srcRow l (descV l k).2]] := by
  refine Spec.body Try.func15 rfl Try.ntmps15 (by simp) rfl ?_; intro S0 own0 v0 w0
  (refine AW.seq_k ?_; intro K hK)
  refine AW.region ?_
  refine awJ (op_alloc rfl ze30 rfl) ?_; (try simp only [nA, Nat.reduceBEq, Nat.reduceEqDiff, ↓reduceIte, Nat.reduceAdd, Nat.reduceSub])
  refine AWL.nil ?_
  (refine hK _ ?_; clear hK K; (try simp only [nA, Nat.reduceBEq, Nat.reduceEqDiff, ↓reduceIte, Nat.reduceAdd, Nat.reduceSub]))
  (refine AW.seq_k ?_; intro K hK)
  refine AW.region ?_
  refine awP (op_move rfl rfl) ?_
  refine awJ (op_call1 rfl en29 (C29 hl (n := 4) (by decide)) (by exact rfl) (RL.cons .ptr (RL.cons (.base (by first | exact View.same rfl | exact View.nil | exact View.rof | exact View.src .ro | exact View.src .rof | exact View.src (.sl rfl rfl) | exact View.ptr rfl rfl rfl)) (RL.nil))) (by exact ⟨_, _, _, rfl, rfl, rfl⟩) (by exact rfl) (by exact rfl) (by exact rfl)) ?_; (try simp only [nA, Nat.reduceBEq, Nat.reduceEqDiff, ↓reduceIte, Nat.reduceAdd, Nat.reduceSub])
  refine awP (op_move rfl rfl) ?_
  refine awJ (op_call1 rfl en29 (C29 hl (n := 4) (by decide)) (by exact rfl) (RL.cons .ptr (RL.cons (.base (by first | exact View.same rfl | exact View.nil | exact View.rof | exact View.src .ro | exact View.src .rof | exact View.src (.sl rfl rfl) | exact View.ptr rfl rfl rfl)) (RL.nil))) (by exact ⟨_, _, _, rfl, rfl, rfl⟩) (by exact rfl) (by exact rfl) (by exact rfl)) ?_; (try simp only [nA, Nat.reduceBEq, Nat.reduceEqDiff, ↓reduceIte, Nat.reduceAdd, Nat.reduceSub])
  refine awP (op_move rfl rfl) ?_
  refine awJ (OpJ.frz (op_buildSlice rfl [(0, iv 0), (1, iv 1), (2, iv 3), (3, iv 7), (4, iv 15), (5, iv 255), (6, iv 170), (7, iv 85)] (([0, 1, 3, 7, 15, 255, 170, 85] : List Int).map iv) Try.underlying23 ze3 rfl (by simp) (fold_dense 1 (([0, 1, 3, 7, 15, 255, 170, 85] : List Int).map iv) (iv_len _)) (iv_len _) rfl (Nat.le_of_ble_eq_true rfl) (by simp [maxLen])) (iv_flat feas8) rfl) ?_; (try simp only [nA, Nat.reduceBEq, Nat.reduceEqDiff, ↓reduceIte, Nat.reduceAdd, Nat.reduceSub])
  refine awJ (op_call1 rfl en30 (C30 (xs := feas8) hl (by decide) (by decide)) (by exact rfl) (RL.cons .ptr (RL.cons (.base (by first | exact View.same rfl | exact View.nil | exact View.rof | exact View.src .ro | exact View.src .rof | exact View.src (.sl rfl rfl) | exact View.ptr rfl rfl rfl)) (RL.nil))) (by exact ⟨_, _, _, rfl, rfl, rfl⟩) (by exact rfl) (by exact rfl) (by exact rfl)) ?_; (try simp only [nA, Nat.reduceBEq, Nat.reduceEqDiff, ↓reduceIte, Nat.reduceAdd, Nat.reduceSub])
  refine awP (op_move rfl rfl) ?_
  refine awJ (OpJ.frz (op_buildSlice rfl [(0, sv _), (1, sv _), (2, sv _), (3, sv _)] (ports4.map sv) Try.underlying62 ze9 rfl (by simp [ports4]) (fold_dense 1 (ports4.map sv) (sv_len _)) (sv_len _) rfl (Nat.le_of_ble_eq_true rfl) (by simp [ports4, maxLen])) (sv_flat ports4) rfl) ?_; (try simp only [nA, Nat.reduceBEq, Nat.reduceEqDiff, ↓reduceIte, Nat.reduceAdd, Nat.reduceSub])
  refine awJ (op_call1 rfl en31 (C31 (xs := ports4) hl (by decide) (by decide)) (by exact rfl) (RL.cons .ptr (RL.cons (.base (by first | exact View.same rfl | exact View.nil | exact View.rof | exact View.src .ro | exact View.src .rof | exact View.src (.sl rfl rfl) | exact View.ptr rfl rfl rfl)) (RL.nil))) (by exact ⟨_, _, _, rfl, rfl, rfl⟩) (by exact rfl) (by exact rfl) (by exact rfl)) ?_; (try simp only [nA, Nat.reduceBEq, Nat.reduceEqDiff, ↓reduceIte, Nat.reduceAdd, Nat.reduceSub])
  refine awP (op_build2 (xs := [.v (.string ⟨#[]⟩), _, _, _, _]) rfl pl30 ze30 [(1, [_]), (2, [_]), (3, [_]), (4, [_])] rfl rfl rfl) ?_
  refine awJ (op_alloc rfl ze30 rfl) ?_; (try simp only [nA, Nat.reduceBEq, Nat.reduceEqDiff, ↓reduceIte, Nat.reduceAdd, Nat.reduceSub])
  refine awJ (op_store rfl rfl rfl rfl rfl rfl sz30 rfl (Nat.le_of_ble_eq_true rfl) rfl) ?_; (try simp only [nA, Nat.reduceBEq, Nat.reduceEqDiff, ↓reduceIte, Nat.reduceAdd, Nat.reduceSub])
  refine AWL.nil ?_
  (refine hK _ ?_; clear hK K; (try simp only [nA, Nat.reduceBEq, Nat.reduceEqDiff, ↓reduceIte, Nat.reduceAdd, Nat.reduceSub]))
  (refine AW.seq_k ?_; intro K hK)
  (refine AW.seq_k ?_; intro K hK)
  refine AW.region ?_
  refine awP (op_move rfl rfl) ?_
  refine awJ (op_call1 rfl en29 (C29 hl (n := 3) (by decide)) (by exact rfl) (RL.cons .ptr (RL.cons (.base (by first | exact View.same rfl | exact View.nil | exact View.rof | exact View.src .ro | exact View.src .rof | exact View.src (.sl rfl rfl) | exact View.ptr rfl rfl rfl)) (RL.nil))) (by exact ⟨_, _, _, rfl, rfl, rfl⟩) (by exact rfl) (by exact rfl) (by exact rfl)) ?_; (try simp only [nA, Nat.reduceBEq, Nat.reduceEqDiff, ↓reduceIte, Nat.reduceAdd, Nat.reduceSub])
  refine awP (op_gtr rfl rfl rfl) ?_
  refine AWL.nil ?_
  (refine hK _ ?_; clear hK K; (try simp only [nA, Nat.reduceBEq, Nat.reduceEqDiff, ↓reduceIte, Nat.reduceAdd, Nat.reduceSub]))
  refine AW.cond rfl rfl rfl (fun hc => ?_) (fun hc => ?_)
  ·
   (try simp only [hcS] at hc); have hc1 := hc; have hsz : (textV l (rawN l (it4 l k)) pats4).size = 10 := pats_size; have hsl : (textV l (rawN l (it4 l k)) pats4).data.toList.length = 10 := (by rw [size_len]; exact hsz)
   (refine AW.seq_k ?_; intro K hK)
   refine AW.region ?_
   refine awP (op_move rfl rfl) ?_
   refine awJ (OpJ.frz (op_buildSlice rfl [(0, sv _), (1, sv _), (2, sv _), (3, sv _)] (pats4.map sv) Try.underlying62 ze9 rfl (by simp [pats4]) (fold_dense 1 (pats4.map sv) (sv_len _)) (sv_len _) rfl (Nat.le_of_ble_eq_true rfl) (by simp [pats4, maxLen])) (sv_flat pats4) rfl) ?_; (try simp only [nA, Nat.reduceBEq, Nat.reduceEqDiff, ↓reduceIte, Nat.reduceAdd, Nat.reduceSub])
   refine awJ (op_call1 rfl en31 (C31 (xs := pats4) hl (by decide) (by decide)) (by exact rfl) (RL.cons .ptr (RL.cons (.base (by first | exact View.same rfl | exact View.nil | exact View.rof | exact View.src .ro | exact View.src .rof | exact View.src (.sl rfl rfl) | exact View.ptr rfl rfl rfl)) (RL.nil))) (by exact ⟨_, _, _, rfl, rfl, rfl⟩) (by exact rfl) (by exact rfl) (by exact rfl)) ?_; (try simp only [nA, Nat.reduceBEq, Nat.reduceEqDiff, ↓reduceIte, Nat.reduceAdd, Nat.reduceSub])
   refine awX (op_s2b rfl rfl Try.underlying9 Try.underlying37 Try.underlying5 (by rw [hsz]; decide)) ?_; rintro _ _ ⟨g, c, rfl, hc0, rfl⟩; (try simp only [nA, Nat.reduceBEq, Nat.reduceEqDiff, ↓reduceIte, Nat.reduceAdd, Nat.reduceSub])
   refine awP (op_assign rfl rfl) ?_
   refine AWL.nil ?_
   (refine hK _ ?_; clear hK K; (try simp only [nA, Nat.reduceBEq, Nat.reduceEqDiff, ↓reduceIte, Nat.reduceAdd, Nat.reduceSub]))
   (refine AW.seq_k ?_; intro K hK)
   (refine AW.seq_k ?_; intro K hK)
   refine AW.region ?_
   refine awP (op_move rfl rfl) ?_
   refine awJ (op_call1 rfl en29 (C29 hl (n := 4) (by decide)) (by exact rfl) (RL.cons .ptr (RL.cons (.base (by first | exact View.same rfl | exact View.nil | exact View.rof | exact View.src .ro | exact View.src .rof | exact View.src (.sl rfl rfl) | exact View.ptr rfl rfl rfl)) (RL.nil))) (by exact ⟨_, _, _, rfl, rfl, rfl⟩) (by exact rfl) (by exact rfl) (by exact rfl)) ?_; (try simp only [nA, Nat.reduceBEq, Nat.reduceEqDiff, ↓reduceIte, Nat.reduceAdd, Nat.reduceSub])
   refine awP (op_assign rfl rfl) ?_
   refine AWL.nil ?_
   (refine hK _ ?_; clear hK K; (try simp only [nA, Nat.reduceBEq, Nat.reduceEqDiff, ↓reduceIte, Nat.reduceAdd, Nat.reduceSub]))
   refine AW.block ?_
   have g4 := gmod_bd (x := rawV l (it2 l (it4 l k))) (n := 4) (by decide); refine AW.loopI (fun (q : Nat × Nat × List UInt8) => [(0, .ptr 0 0 0 0), (2, .ptr 1 1 0 0), (3, .ptr 2 2 0 0), (4, .v (slv g (textV l (rawN l (it4 l k)) pats4).size c)), (5, .v (.int .i64 (q.1 : Nat)))]) (fun q => ⟨[(0, .own 58 [srcRow l q.2.1]), (1, .own 30 [[.v (.string ⟨#[]⟩), .v (.int .i64 0), .v (.int .i64 0), .v (.int .i64 0), .v (.string ⟨#[]⟩)]]), (2, .own 30 [[.v (.string ⟨#[]⟩), .v (.int .i64 (gmod (rawV l k) 4)), .v (.int .i64 (gmod (rawV l (rawN l k)) 4)), .v (.int .i64 (pickV l (it2 l k) feas8)), .v (.string (textV l (rawN l (it2 l k)) ports4))]]), (3, .byt (slv g (textV l (rawN l (it4 l k)) pats4).size c) 5 (byC q.2.2))], 4⟩) (fun q => q.1 ≤ 4 ∧ q.2.2.length = 10 ∧ holes l q.1 q.2.1 q.2.2 = holes l (gmod (rawV l (it2 l (it4 l k))) 4).toNat (rawN l (it2 l (it4 l k))) (textV l (rawN l (it4 l k)) pats4).data.toList) (fun q => q.1) ((gmod (rawV l (it2 l (it4 l k))) 4).toNat, rawN l (it2 l (it4 l k)), (textV l (rawN l (it4 l k)) pats4).data.toList) ⟨by dsimp only; omega, hsl, rfl⟩ ⟨rfl, rfl, rfl, rfl, (by show AV.v (.int .i64 _) = AV.v (.int .i64 _); rw [Int.toNat_of_nonneg (by omega)]), trivial⟩ rfl ?_; rintro ⟨f, k1, b⟩ ρ ⟨hf4, hbl, hR⟩; simp only at hf4 hbl hR; simp only [updL]; (try simp only [nA, Nat.reduceBEq, Nat.reduceEqDiff, ↓reduceIte, Nat.reduceAdd, Nat.reduceSub])
   (refine AW.seq_k ?_; intro K hK)
   (refine AW.seq_k ?_; intro K hK)
   refine AW.region ?_
   refine awP (op_move rfl rfl) ?_
   refine awP (op_gtr rfl rfl rfl) ?_
   refine AWL.nil ?_
   (refine hK _ ?_; clear hK K; (try simp only [nA, Nat.reduceBEq, Nat.reduceEqDiff, ↓reduceIte, Nat.reduceAdd, Nat.reduceSub]))
   refine AW.cond rfl rfl rfl (fun hc => ?_) (fun hc => ?_)
   ·
    (try simp only [hcS] at hc); have hc2 := hc; obtain ⟨f, rfl⟩ : ∃ g, f = g + 1 := ⟨f - 1, by omega⟩; rw [holes_s] at hR; have g10 := gmod_bd (x := rawV l k1) (n := 10) (by decide)
    refine AW.skip ?_
    (refine hK _ ?_; clear hK K; (try simp only [nA, Nat.reduceBEq, Nat.reduceEqDiff, ↓reduceIte, Nat.reduceAdd, Nat.reduceSub]))
    (refine AW.seq_k ?_; intro K hK)
    refine AW.block ?_
    refine AW.region ?_
    refine awP (op_move rfl rfl) ?_
    refine awP (op_move rfl rfl) ?_
    refine awJ (op_call1 rfl en29 (C29 hl (n := 10) (by decide)) (by exact rfl) (RL.cons .ptr (RL.cons (.base (by first | exact View.same rfl | exact View.nil | exact View.rof | exact View.src .ro | exact View.src .rof | exact View.src (.sl rfl rfl) | exact View.ptr rfl rfl rfl)) (RL.nil))) (by exact ⟨_, _, _, rfl, rfl, rfl⟩) (by exact rfl) (by exact rfl) (by exact rfl)) ?_; (try simp only [nA, Nat.reduceBEq, Nat.reduceEqDiff, ↓reduceIte, Nat.reduceAdd, Nat.reduceSub])
    refine awP (op_ia_v (gmod (rawV l k1) 10).toNat 1 rfl rfl rfl Try.underlying37 (by omega) (by omega) sz5 (Nat.mul_one _)) ?_
    refine awJ (op_store_b 3 3 rfl rfl rfl rfl rfl sz5 (by rw [byC_len]; omega) (byC_set (b := 63)) rfl) ?_; (try simp only [nA, Nat.reduceBEq, Nat.reduceEqDiff, ↓reduceIte, Nat.reduceAdd, Nat.reduceSub])
    refine AWL.nil ?_
    (try simp only [thenE, inBlk, Nat.reduceEqDiff, ↓reduceIte])
    (refine hK _ ?_; clear hK K; (try simp only [nA, Nat.reduceBEq, Nat.reduceEqDiff, ↓reduceIte, Nat.reduceAdd, Nat.reduceSub]))
    refine AW.region ?_
    refine awP (op_move rfl rfl) ?_
    (first | refine awP (op_subi rfl rfl rfl (by omega)) ?_ | refine awP (op_sub rfl rfl rfl rfl) ?_)
    refine awP (op_assign rfl rfl) ?_
    skip
    refine AWL.nil ?_
    refine ⟨(f, rawN l k1, b.set (gmod (rawV l k1) 10).toNat 63), ⟨by dsimp only; omega, by rw [List.length_set]; exact hbl, hR⟩, by dsimp only; omega, ⟨rfl, rfl, rfl, rfl, (by show AV.v (Value.int .i64 (((f + 1 : Nat) : Int) - 1)) = AV.v (Value.int .i64 (f : Nat)); congr 2; omega), trivial⟩, (by first | rfl | trivial), (by first | rfl | trivial)⟩
   ·
    (try simp only [hcS] at hc); have hc2 := hc; obtain rfl : f = 0 := (by omega); rw [holes_0] at hR
    refine AW.exit ?_; (try simp only [thenE, inBlk, Nat.reduceEqDiff, ↓reduceIte])
    clear hK K
    (refine hK _ ?_; clear hK K; (try simp only [nA, Nat.reduceBEq, Nat.reduceEqDiff, ↓reduceIte, Nat.reduceAdd, Nat.reduceSub]))
    refine AW.region ?_
    refine awP (op_move rfl rfl) ?_
    refine awR (op_b2s 3 3 rfl rfl (by rw [show (textV l (rawN l (it4 l k)) pats4).size = (byC b).length by rw [byC_len]; omega]; rfl) Try.underlying37 Try.underlying5 Try.underlying9 rfl) ?_
    (first | refine awP (op_fa_ptr rfl rfl rfl fl30_0 (by exact sz9) (by decide) rfl) ?_ | refine awP (op_fa_rop rfl rfl fl30_0 (by exact sz9) (by decide) (Nat.le_of_ble_eq_true rfl) rfl) ?_)
    refine awJ (op_store rfl rfl rfl rfl rfl rfl sz9 rfl (Nat.le_of_ble_eq_true rfl) rfl) ?_; (try simp only [nA, Nat.reduceBEq, Nat.reduceEqDiff, ↓reduceIte, Nat.reduceAdd, Nat.reduceSub])
    refine AWL.nil ?_
    (refine hK _ ?_; clear hK K; (try simp only [nA, Nat.reduceBEq, Nat.reduceEqDiff, ↓reduceIte, Nat.reduceAdd, Nat.reduceSub]))
    (refine AW.seq_k ?_; intro K hK)
    refine AW.region ?_
    (first | refine awR (op_load_ptr rfl rfl rfl rfl ag30 sz30 (Nat.le_of_ble_eq_true rfl) rfl) ?_ | refine awR (op_load_rop rfl rfl ag30 sz30 (Nat.le_of_ble_eq_true rfl) (by decide) rfl) ?_)
    refine awJ (op_store rfl rfl rfl rfl rfl rfl sz30 rfl (Nat.le_of_ble_eq_true rfl) rfl) ?_; (try simp only [nA, Nat.reduceBEq, Nat.reduceEqDiff, ↓reduceIte, Nat.reduceAdd, Nat.reduceSub])
    refine AWL.nil ?_
    (refine hK _ ?_; clear hK K; (try simp only [nA, Nat.reduceBEq, Nat.reduceEqDiff, ↓reduceIte, Nat.reduceAdd, Nat.reduceSub]))
    skip
    refine AW.ret ?_; (try simp only [thenE, inBlk, Nat.reduceEqDiff, ↓reduceIte]); rw [show descV l k = (dbase l k ⟨b.toArray⟩, k1) by unfold descV; rw [if_pos hc1, ← hR]]; exact RQ.of (.inl rfl) rfl (.cell (Nat.le_of_ble_eq_true rfl) rfl rfl rfl ag30 sz30 (Nat.le_of_ble_eq_true rfl) rfl rfl .nil) (by simp) rfl (one_out rfl)
  ·
   (try simp only [hcS] at hc); have hc1 := hc; have hc1' : ¬ 0 < gmod (rawV l (it4 l k)) 3 := (by show ¬ 0 < gmod (rawV l (rawN l (rawN l (rawN l (rawN l k))))) 3; omega)
   refine AW.skip ?_
   (refine hK _ ?_; clear hK K; (try simp only [nA, Nat.reduceBEq, Nat.reduceEqDiff, ↓reduceIte, Nat.reduceAdd, Nat.reduceSub]))
   (refine AW.seq_k ?_; intro K hK)
   refine AW.region ?_
   (first | refine awR (op_load_ptr rfl rfl rfl rfl ag30 sz30 (Nat.le_of_ble_eq_true rfl) rfl) ?_ | refine awR (op_load_rop rfl rfl ag30 sz30 (Nat.le_of_ble_eq_true rfl) (by decide) rfl) ?_)
   refine awJ (op_store rfl rfl rfl rfl rfl rfl sz30 rfl (Nat.le_of_ble_eq_true rfl) rfl) ?_; (try simp only [nA, Nat.reduceBEq, Nat.reduceEqDiff, ↓reduceIte, Nat.reduceAdd, Nat.reduceSub])
   refine AWL.nil ?_
   (refine hK _ ?_; clear hK K; (try simp only [nA, Nat.reduceBEq, Nat.reduceEqDiff, ↓reduceIte, Nat.reduceAdd, Nat.reduceSub]))
   skip
   refine AW.ret ?_; (try simp only [thenE, inBlk, Nat.reduceEqDiff, ↓reduceIte]); rw [show descV l k = (dbase l k ⟨#[]⟩, rawN l (it4 l k)) by unfold descV; rw [if_neg hc1']]; exact RQ.of (.inl rfl) rfl (.cell (Nat.le_of_ble_eq_true rfl) rfl rfl rfl ag30 sz30 (Nat.le_of_ble_eq_true rfl) rfl rfl .nil) (by simp) rfl (one_out rfl)
end Go.Proofs.Ytjgbbffcjbmjmaa
