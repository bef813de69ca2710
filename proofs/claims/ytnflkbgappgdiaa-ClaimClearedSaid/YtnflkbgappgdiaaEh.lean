import Derived.Test.YtnflkbgappgdiaaEg
import Derived.Test.YtnflkbgappgdiaaAbN
namespace Go.Proofs.Ytnflkbgappgdiaa
open Go.RowKit
set_option linter.unusedSimpArgs false
set_option linter.unusedVariables false

abbrev sv (s : ByteArray) : List AV := [.v (.string s)]
theorem sv_flat (l : List ByteArray) : ∀ r ∈ l.map sv, ∀ c ∈ r, flatA c = true := fun r hr c hc => by
  obtain ⟨p, _, rfl⟩ := List.mem_map.1 hr
  obtain rfl : c = _ := by simpa using hc
  rfl
theorem sv_len (l : List ByteArray) : ∀ x ∈ l.map sv, x.length = 1 := fun x hx => by
  obtain ⟨p, _, rfl⟩ := List.mem_map.1 hx
  rfl
def carr : List ByteArray := [⟨#[83,75]⟩, ⟨#[66,65]⟩, ⟨#[76,72]⟩, ⟨#[65,89]⟩, ⟨#[75,76]⟩, ⟨#[65,70]⟩, ⟨#[85,50,88]⟩, ⟨#[68,56]⟩]
def wts : List Int := [0, 1, 1, 2, 3, 7, 100, 1073741824]
theorem C20 : Fn Try.prog 20 [] [] [.ro (carr.map sv)] [] := by
  refine Spec.body Try.func20 rfl Try.ntmps20 (by simp) rfl ?_; intro S0 own0 v0 w0
  (refine AW.seq_k ?_; intro K hK)
  refine AW.region ?_
  refine awP (op_assign rfl rfl) ?_
  refine AWL.nil ?_
  (refine hK _ ?_; clear hK K; (try simp only [nA, Nat.reduceBEq, Nat.reduceEqDiff, ↓reduceIte, Nat.reduceAdd, Nat.reduceSub]))
  (refine AW.seq_k ?_; intro K hK)
  refine AW.region ?_
  refine awJ (op_buildSlice rfl [(0, sv _), (1, sv _), (2, sv _), (3, sv _), (4, sv _), (5, sv _), (6, sv _), (7, sv _)] (carr.map sv) Try.underlying31 ze9 rfl (by simp [carr]) (fold_dense 1 (carr.map sv) (sv_len _)) (sv_len _) rfl (Nat.le_of_ble_eq_true rfl) (by simp [carr, maxLen])) ?_; (try simp only [nA, Nat.reduceBEq, Nat.reduceEqDiff, ↓reduceIte, Nat.reduceAdd, Nat.reduceSub]); skip; (try simp only [nA, Nat.reduceBEq, Nat.reduceEqDiff, ↓reduceIte, Nat.reduceAdd, Nat.reduceSub])
  refine awP (op_assign rfl rfl) ?_
  refine AWL.nil ?_
  (refine hK _ ?_; clear hK K; (try simp only [nA, Nat.reduceBEq, Nat.reduceEqDiff, ↓reduceIte, Nat.reduceAdd, Nat.reduceSub]))
  refine AW.gh (Gh.freeze 0 (Nat.le_of_ble_eq_true rfl) rfl rfl (sv_flat carr) (es' := carr.map sv) rfl) ?_; (try simp only [nA, Nat.reduceBEq, Nat.reduceEqDiff, ↓reduceIte, Nat.reduceAdd, Nat.reduceSub])
  refine AW.ret ?_; (try simp only [thenE, inBlk, Nat.reduceEqDiff, ↓reduceIte]); exact RQ.of0 rfl (.tmp (Nat.le_of_ble_eq_true rfl) rfl rfl .nil)

theorem iv_flat (l : List Int) : ∀ r ∈ l.map iv, ∀ c ∈ r, flatA c = true := fun r hr c hc => by
  obtain ⟨p, _, rfl⟩ := List.mem_map.1 hr
  obtain rfl : c = _ := by simpa using hc
  rfl
def npr (l : List Int) (st : Int) (k n : Nat) : Pr := ⟨carr.getD (Int.tmod (st + 3 * (n : Nat)) 8).toNat default, pickV l k wts⟩
def partsF (l : List Int) (st : Int) : Nat → Nat → List Pr → List Pr × Nat
  | 0, k, ps => (ps, k)
  | f + 1, k, ps => partsF l st f (rawN l k) (ps ++ [npr l st k ps.length])
theorem partsF_s (l : List Int) (st : Int) (f k : Nat) (ps : List Pr) : partsF l st (f + 1) k ps = partsF l st f (rawN l k) (ps ++ [npr l st k ps.length]) := rfl
theorem partsF_0 (l : List Int) (st : Int) (k : Nat) (ps : List Pr) : partsF l st 0 k ps = (ps, k) := rfl
abbrev fstUp (ps : List Pr) : List Pr := match ps with | [] => [] | p :: ps => ⟨p.name, p.amt + (1 - min 1 p.amt)⟩ :: ps
def partsV (l : List Int) (k n : Nat) : List Pr × Nat :=
  let r := partsF l (gmod (rawV l k) 8) (1 + gmod (rawV l (rawN l k)) (n : Nat)).toNat (rawN l (rawN l k)) []
  (fstUp r.1, r.2)
theorem pick_w (l : List Int) (k : Nat) : 0 ≤ pickV l k wts ∧ pickV l k wts ≤ 1073741824 := by
  have h : ∀ x ∈ wts, 0 ≤ x ∧ x ≤ 1073741824 := by decide
  exact h _ (pickV_mem (by decide))
theorem C10 {l : List Int} {k0 n : Nat} (hl : l.length ≤ 2000) (h1 : 1 ≤ n) (h2 : n ≤ 50) : Fn Try.prog 10 [.own 63 [srcRow l k0]] [.ptr 0 0 0 0, .v (.int .i64 (n : Nat))] [.ro ((partsV l k0 n).1.map Pr.av)] [.own 63 [srcRow l (partsV l k0 n).2]] := by
  have g1 := gmod_bd (x := rawV l k0) (n := 8) (by decide)
  have g2 := gmod_bd (x := rawV l (rawN l k0)) (n := (n : Nat)) (by omega)
  refine Spec.body Try.func10 rfl Try.ntmps10 (by simp) rfl ?_; intro S0 own0 v0 w0
  (refine AW.seq_k ?_; intro K hK)
  refine AW.region ?_
  refine awP (op_assign rfl rfl) ?_
  refine AWL.nil ?_
  (refine hK _ ?_; clear hK K; (try simp only [nA, Nat.reduceBEq, Nat.reduceEqDiff, ↓reduceIte, Nat.reduceAdd, Nat.reduceSub]))
  (refine AW.seq_k ?_; intro K hK)
  refine AW.region ?_
  refine awP (op_assign rfl rfl) ?_
  refine AWL.nil ?_
  (refine hK _ ?_; clear hK K; (try simp only [nA, Nat.reduceBEq, Nat.reduceEqDiff, ↓reduceIte, Nat.reduceAdd, Nat.reduceSub]))
  (refine AW.seq_k ?_; intro K hK)
  refine AW.region ?_
  refine awP (op_move rfl rfl) ?_
  refine awJ (op_call1 rfl en11 (C11 hl (n := 8) (by decide)) (by exact rfl) (RL.cons .ptr (RL.cons (.base (by first | exact View.same rfl | exact View.nil | exact View.rof | exact View.src .ro | exact View.src .rof | exact View.src (.sl rfl rfl) | exact View.ptr rfl rfl rfl)) (RL.nil))) (by exact ⟨_, _, _, rfl, rfl, rfl⟩) (by exact rfl) (by exact rfl) (by exact rfl)) ?_; (try simp only [nA, Nat.reduceBEq, Nat.reduceEqDiff, ↓reduceIte, Nat.reduceAdd, Nat.reduceSub])
  refine awP (op_assign rfl rfl) ?_
  refine AWL.nil ?_
  (refine hK _ ?_; clear hK K; (try simp only [nA, Nat.reduceBEq, Nat.reduceEqDiff, ↓reduceIte, Nat.reduceAdd, Nat.reduceSub]))
  (refine AW.seq_k ?_; intro K hK)
  (refine AW.seq_k ?_; intro K hK)
  refine AW.region ?_
  refine awP (op_move rfl rfl) ?_
  refine awP (op_move rfl rfl) ?_
  refine awJ (op_call1 rfl en11 (C11 hl (n := (n : Nat)) (by omega)) (by exact rfl) (RL.cons .ptr (RL.cons (.base (by first | exact View.same rfl | exact View.nil | exact View.rof | exact View.src .ro | exact View.src .rof | exact View.src (.sl rfl rfl) | exact View.ptr rfl rfl rfl)) (RL.nil))) (by exact ⟨_, _, _, rfl, rfl, rfl⟩) (by exact rfl) (by exact rfl) (by exact rfl)) ?_; (try simp only [nA, Nat.reduceBEq, Nat.reduceEqDiff, ↓reduceIte, Nat.reduceAdd, Nat.reduceSub])
  (first | refine awP (op_addi rfl rfl rfl (by omega)) ?_ | refine awP (op_add rfl rfl rfl rfl) ?_)
  refine awP (op_assign rfl rfl) ?_
  refine AWL.nil ?_
  (refine hK _ ?_; clear hK K; (try simp only [nA, Nat.reduceBEq, Nat.reduceEqDiff, ↓reduceIte, Nat.reduceAdd, Nat.reduceSub]))
  refine AW.block ?_
  refine AW.gh (Gh.nil (e := 25) 5 (Nat.le_of_ble_eq_true rfl) rfl sz25) ?_; (try simp only [nA, Nat.reduceBEq, Nat.reduceEqDiff, ↓reduceIte, Nat.reduceAdd, Nat.reduceSub]); refine AW.loopI (fun (q : Nat × Nat × List Pr × Nat × Nat) => [(0, .ptr 0 0 0 0), (5, .sl 1 q.2.2.2.1 0 q.2.2.1.length), (6, .v (.int .i64 (gmod (rawV l k0) 8))), (7, .v (.int .i64 (q.1 : Nat)))]) (fun q => ⟨[(0, .own 63 [srcRow l q.2.1]), (q.2.2.2.1, .own 25 (q.2.2.1.map Pr.av))], q.2.2.2.2⟩) (fun q => q.2.2.1.length + q.1 ≤ 100 ∧ 1 ≤ q.2.2.1.length + q.1 ∧ (∀ p ∈ q.2.2.1, 0 ≤ p.amt ∧ p.amt ≤ 1073741824) ∧ partsF l (gmod (rawV l k0) 8) q.1 q.2.1 q.2.2.1 = partsF l (gmod (rawV l k0) 8) (1 + gmod (rawV l (rawN l k0)) (n : Nat)).toNat (rawN l (rawN l k0)) []) (fun q => q.1) ((1 + gmod (rawV l (rawN l k0)) (n : Nat)).toNat, (rawN l (rawN l k0)), [], 1, 2) ⟨by simp; omega, by simp; omega, by simp, rfl⟩ ⟨rfl, rfl, rfl, (by show _ = AV.v (.int .i64 (((1 + gmod (rawV l (rawN l k0)) (n : Nat)).toNat : Nat) : Int)); rw [Int.toNat_of_nonneg (by omega)]; rfl), trivial⟩ rfl ?_; rintro ⟨f, k, ps, v, ep⟩ ρ hI; simp only at hI; simp only [updL]; (try simp only [nA, Nat.reduceBEq, Nat.reduceEqDiff, ↓reduceIte, Nat.reduceAdd, Nat.reduceSub])
  (refine AW.seq_k ?_; intro K hK)
  (refine AW.seq_k ?_; intro K hK)
  refine AW.region ?_
  refine awP (op_move rfl rfl) ?_
  refine awP (op_gtr rfl rfl rfl) ?_
  refine AWL.nil ?_
  (refine hK _ ?_; clear hK K; (try simp only [nA, Nat.reduceBEq, Nat.reduceEqDiff, ↓reduceIte, Nat.reduceAdd, Nat.reduceSub]))
  refine AW.cond rfl rfl rfl (fun hc => ?_) (fun hc => ?_)
  ·
   (try simp only [hcS] at hc); have hc1 := hc; obtain ⟨f, rfl⟩ : ∃ g, f = g + 1 := ⟨f - 1, by omega⟩; have hR := hI.2.2.2; rw [partsF_s] at hR; have hix := Int.emod_nonneg (gmod (rawV l k0) 8 + 3 * (ps.length : Nat)) (by decide : (8 : Int) ≠ 0); have hix2 := Int.emod_lt_of_pos (gmod (rawV l k0) 8 + 3 * (ps.length : Nat)) (by decide : (0 : Int) < 8); have htm := Int.tmod_eq_emod_of_nonneg (a := gmod (rawV l k0) 8 + 3 * (ps.length : Nat)) (b := 8) (by omega)
   refine AW.skip ?_
   (refine hK _ ?_; clear hK K; (try simp only [nA, Nat.reduceBEq, Nat.reduceEqDiff, ↓reduceIte, Nat.reduceAdd, Nat.reduceSub]))
   (refine AW.seq_k ?_; intro K hK)
   refine AW.block ?_
   refine AW.adk 15 (FixL [(1, v, .own 25 (ps.map Pr.av))]) mix rfl ?_
   refine akP 0 rfl (fun T' ok => op_move rfl rfl) (by first | exact trivial | exact ⟨rfl, trivial⟩ | exact ⟨rfl, rfl, trivial⟩ | exact ⟨rfl, rfl, rfl, trivial⟩) (by kernel_rfl) (by kernel_rfl) (by kernel_rfl) ?_; (try simp only [nA, Nat.reduceBEq, Nat.reduceEqDiff, ↓reduceIte, Nat.reduceAdd, Nat.reduceSub])
   refine akP 2 rfl (fun T' ok => op_move rfl rfl) (by first | exact trivial | exact ⟨rfl, trivial⟩ | exact ⟨rfl, rfl, trivial⟩ | exact ⟨rfl, rfl, rfl, trivial⟩) (by kernel_rfl) (by kernel_rfl) (by kernel_rfl) ?_; (try simp only [nA, Nat.reduceBEq, Nat.reduceEqDiff, ↓reduceIte, Nat.reduceAdd, Nat.reduceSub])
   refine akP 3 rfl (fun T' ok => op_move rfl rfl) (by first | exact trivial | exact ⟨rfl, trivial⟩ | exact ⟨rfl, rfl, trivial⟩ | exact ⟨rfl, rfl, rfl, trivial⟩) (by kernel_rfl) (by kernel_rfl) (by kernel_rfl) ?_; (try simp only [nA, Nat.reduceBEq, Nat.reduceEqDiff, ↓reduceIte, Nat.reduceAdd, Nat.reduceSub])
   (first | refine akP 4 rfl (fun T' ok => op_len_ro rfl rfl Try.underlying22 (by first | exact .inr (.inl ⟨_, rfl, rfl⟩) | exact .inl rfl | exact .inr (.inr (.inl ⟨_, rfl, rfl⟩)) | exact .inr (.inr (.inr ⟨rfl, rfl⟩)))) (by first | exact trivial | exact ⟨rfl, trivial⟩ | exact ⟨rfl, rfl, trivial⟩ | exact ⟨rfl, rfl, rfl, trivial⟩) (by kernel_rfl) (by kernel_rfl) (by kernel_rfl) ?_ | refine akP 4 rfl (fun T' ok => op_len_sl rfl rfl (by first | exact ok.1 | exact ok.2.1 | exact ok.2.2.1 | exact ok.2.2.2.1) Try.underlying22) (by first | exact trivial | exact ⟨rfl, trivial⟩ | exact ⟨rfl, rfl, trivial⟩ | exact ⟨rfl, rfl, rfl, trivial⟩) (by kernel_rfl) (by kernel_rfl) (by kernel_rfl) ?_ | refine akP 4 rfl (fun T' ok => op_len_str rfl rfl Try.underlying22) (by first | exact trivial | exact ⟨rfl, trivial⟩ | exact ⟨rfl, rfl, trivial⟩ | exact ⟨rfl, rfl, rfl, trivial⟩) (by kernel_rfl) (by kernel_rfl) (by kernel_rfl) ?_); (try simp only [nA, Nat.reduceBEq, Nat.reduceEqDiff, ↓reduceIte, Nat.reduceAdd, Nat.reduceSub])
   (first | refine akP 5 rfl (fun T' ok => op_muli rfl rfl rfl (by omega)) (by first | exact trivial | exact ⟨rfl, trivial⟩ | exact ⟨rfl, rfl, trivial⟩ | exact ⟨rfl, rfl, rfl, trivial⟩) (by kernel_rfl) (by kernel_rfl) (by kernel_rfl) ?_ | refine akP 5 rfl (fun T' ok => op_mul rfl rfl rfl rfl) (by first | exact trivial | exact ⟨rfl, trivial⟩ | exact ⟨rfl, rfl, trivial⟩ | exact ⟨rfl, rfl, rfl, trivial⟩) (by kernel_rfl) (by kernel_rfl) (by kernel_rfl) ?_); (try simp only [nA, Nat.reduceBEq, Nat.reduceEqDiff, ↓reduceIte, Nat.reduceAdd, Nat.reduceSub])
   (first | refine akP 6 rfl (fun T' ok => op_addi rfl rfl rfl (by omega)) (by first | exact trivial | exact ⟨rfl, trivial⟩ | exact ⟨rfl, rfl, trivial⟩ | exact ⟨rfl, rfl, rfl, trivial⟩) (by kernel_rfl) (by kernel_rfl) (by kernel_rfl) ?_ | refine akP 6 rfl (fun T' ok => op_add rfl rfl rfl rfl) (by first | exact trivial | exact ⟨rfl, trivial⟩ | exact ⟨rfl, rfl, trivial⟩ | exact ⟨rfl, rfl, rfl, trivial⟩) (by kernel_rfl) (by kernel_rfl) (by kernel_rfl) ?_); (try simp only [nA, Nat.reduceBEq, Nat.reduceEqDiff, ↓reduceIte, Nat.reduceAdd, Nat.reduceSub])
   (first | refine akP 7 rfl (fun T' ok => op_remi rfl rfl rfl (by omega)) (by first | exact trivial | exact ⟨rfl, trivial⟩ | exact ⟨rfl, rfl, trivial⟩ | exact ⟨rfl, rfl, rfl, trivial⟩) (by kernel_rfl) (by kernel_rfl) (by kernel_rfl) ?_ | refine akP 7 rfl (fun T' ok => op_rem rfl rfl rfl (by omega) rfl) (by first | exact trivial | exact ⟨rfl, trivial⟩ | exact ⟨rfl, rfl, trivial⟩ | exact ⟨rfl, rfl, rfl, trivial⟩) (by kernel_rfl) (by kernel_rfl) (by kernel_rfl) ?_); (try simp only [nA, Nat.reduceBEq, Nat.reduceEqDiff, ↓reduceIte, Nat.reduceAdd, Nat.reduceSub])
   refine akP 10 rfl (fun T' ok => op_move rfl rfl) (by first | exact trivial | exact ⟨rfl, trivial⟩ | exact ⟨rfl, rfl, trivial⟩ | exact ⟨rfl, rfl, rfl, trivial⟩) (by kernel_rfl) (by kernel_rfl) (by kernel_rfl) ?_; (try simp only [nA, Nat.reduceBEq, Nat.reduceEqDiff, ↓reduceIte, Nat.reduceAdd, Nat.reduceSub])
   refine akF 1 rfl (fun T' ok => op_callS rfl en20 (C20) (RL.nil) rfl rfl rfl) (by first | exact trivial | exact ⟨rfl, trivial⟩ | exact ⟨rfl, rfl, trivial⟩ | exact ⟨rfl, rfl, rfl, trivial⟩) (by kernel_rfl) (by kernel_rfl) (by kernel_rfl) ?_; (try simp only [nA, Nat.reduceBEq, Nat.reduceEqDiff, ↓reduceIte, Nat.reduceAdd, Nat.reduceSub])
   (first | refine akP 8 rfl (fun T' ok => op_ia_ro (Int.tmod (gmod (rawV l k0) 8 + 3 * (ps.length : Nat)) 8).toNat rfl (.inl rfl) rfl Try.underlying31 (by omega) (get_mapD (by rw [show carr.length = 8 from rfl]; omega)) (by exact sz9) (Nat.le_of_ble_eq_true rfl)) (by first | exact trivial | exact ⟨rfl, trivial⟩ | exact ⟨rfl, rfl, trivial⟩ | exact ⟨rfl, rfl, rfl, trivial⟩) (by kernel_rfl) (by kernel_rfl) (by kernel_rfl) ?_ | refine akP 8 rfl (fun T' ok => op_ia_sl _ _ rfl rfl rfl (by first | exact ok.1 | exact ok.2.1 | exact ok.2.2.1 | exact ok.2.2.2.1) Try.underlying31 rfl (by omega) (by exact sz9) rfl) (by first | exact trivial | exact ⟨rfl, trivial⟩ | exact ⟨rfl, rfl, trivial⟩ | exact ⟨rfl, rfl, rfl, trivial⟩) (by kernel_rfl) (by kernel_rfl) (by kernel_rfl) ?_); (try simp only [nA, Nat.reduceBEq, Nat.reduceEqDiff, ↓reduceIte, Nat.reduceAdd, Nat.reduceSub])
   (first | refine akR 9 rfl (fun T' ok => op_load_ptr1 rfl rfl (by first | exact ok.1 | exact ok.2.1 | exact ok.2.2.1 | exact ok.2.2.2.1) rfl ag9 rfl rfl) (by first | exact trivial | exact ⟨rfl, trivial⟩ | exact ⟨rfl, rfl, trivial⟩ | exact ⟨rfl, rfl, rfl, trivial⟩) (by kernel_rfl) (by kernel_rfl) (by kernel_rfl) ?_ | refine akR 9 rfl (fun T' ok => op_load_rop1 rfl rfl ag9) (by first | exact trivial | exact ⟨rfl, trivial⟩ | exact ⟨rfl, rfl, trivial⟩ | exact ⟨rfl, rfl, rfl, trivial⟩) (by kernel_rfl) (by kernel_rfl) (by kernel_rfl) ?_); (try simp only [nA, Nat.reduceBEq, Nat.reduceEqDiff, ↓reduceIte, Nat.reduceAdd, Nat.reduceSub])
   refine akJ 11 rfl (OpJ.frz (op_buildSlice rfl [(0, iv 0), (1, iv 1), (2, iv 1), (3, iv 2), (4, iv 3), (5, iv 7), (6, iv 100), (7, iv 1073741824)] (([0, 1, 1, 2, 3, 7, 100, 1073741824] : List Int).map iv) Try.underlying23 ze3 rfl (by simp) (fold_dense 1 (([0, 1, 1, 2, 3, 7, 100, 1073741824] : List Int).map iv) (iv_len _)) (iv_len _) rfl (Nat.le_of_ble_eq_true rfl) (by simp [maxLen])) (iv_flat wts) rfl) (by kernel_rfl) (by first | exact trivial | exact ⟨rfl, trivial⟩ | exact ⟨rfl, rfl, trivial⟩ | exact ⟨rfl, rfl, rfl, trivial⟩) ?_; (try simp only [nA, Nat.reduceBEq, Nat.reduceEqDiff, ↓reduceIte, Nat.reduceAdd, Nat.reduceSub]); skip; (try simp only [nA, Nat.reduceBEq, Nat.reduceEqDiff, ↓reduceIte, Nat.reduceAdd, Nat.reduceSub])
   refine akJ 12 rfl (op_call1 rfl en13 (C13 (xs := wts) hl (by decide) (by decide)) (by exact rfl) (RL.cons .ptr (RL.cons (.base (by first | exact View.same rfl | exact View.nil | exact View.rof | exact View.src .ro | exact View.src .rof | exact View.src (.sl rfl rfl) | exact View.ptr rfl rfl rfl)) (RL.nil))) (by exact ⟨_, _, _, rfl, rfl, rfl⟩) (by exact rfl) (by exact rfl) (by exact rfl)) (by kernel_rfl) (by first | exact trivial | exact ⟨rfl, trivial⟩ | exact ⟨rfl, rfl, trivial⟩ | exact ⟨rfl, rfl, rfl, trivial⟩) ?_; (try simp only [nA, Nat.reduceBEq, Nat.reduceEqDiff, ↓reduceIte, Nat.reduceAdd, Nat.reduceSub])
   refine akP 13 rfl (fun T' ok => op_build2 (xs := [_, _]) rfl pl25 ze25 [(0, [_]), (1, [_])] rfl rfl rfl) (by first | exact trivial | exact ⟨rfl, trivial⟩ | exact ⟨rfl, rfl, trivial⟩ | exact ⟨rfl, rfl, rfl, trivial⟩) (by kernel_rfl) (by kernel_rfl) (by kernel_rfl) ?_; (try simp only [nA, Nat.reduceBEq, Nat.reduceEqDiff, ↓reduceIte, Nat.reduceAdd, Nat.reduceSub])
   refine akJ 14 rfl (op_buildSlice rfl [(0, [_, _])] [[_, _]] Try.underlying22 ze25 rfl (by simp) rfl (by simp) rfl (Nat.le_of_ble_eq_true rfl) (by simp [maxLen])) (by kernel_rfl) (by first | exact trivial | exact ⟨rfl, trivial⟩ | exact ⟨rfl, rfl, trivial⟩ | exact ⟨rfl, rfl, rfl, trivial⟩) ?_; (try simp only [nA, Nat.reduceBEq, Nat.reduceEqDiff, ↓reduceIte, Nat.reduceAdd, Nat.reduceSub]); skip; (try simp only [nA, Nat.reduceBEq, Nat.reduceEqDiff, ↓reduceIte, Nat.reduceAdd, Nat.reduceSub])
   refine akL 15 rfl (op_app (rows := [Pr.av (npr l (gmod (rawV l k0) 8) k ps.length)]) rfl rfl rfl rfl (by simp) (.sl (es := [Pr.av (npr l (gmod (rawV l k0) 8) k ps.length)]) rfl rfl) Try.underlying22 ze25 (by decide) (by simp [Pr.av]) (by simp; omega) (by decide) (es' := (ps ++ [(npr l (gmod (rawV l k0) 8) k ps.length)]).map Pr.av) (by simp) (n := (ps ++ [(npr l (gmod (rawV l k0) 8) k ps.length)]).length) (by simp)) (by kernel_rfl) (by decide) ?_; (try simp only [nA, Nat.reduceBEq, Nat.reduceEqDiff, ↓reduceIte, Nat.reduceAdd, Nat.reduceSub])
   refine akL 16 rfl (OpP.j (op_assign rfl rfl)) (by kernel_rfl) (by decide) ?_; (try simp only [nA, Nat.reduceBEq, Nat.reduceEqDiff, ↓reduceIte, Nat.reduceAdd, Nat.reduceSub])
   refine akDone (by kernel_rfl) ?_
   (try simp only [thenE, inBlk, Nat.reduceEqDiff, ↓reduceIte])
   (refine hK _ ?_; clear hK K; (try simp only [nA, Nat.reduceBEq, Nat.reduceEqDiff, ↓reduceIte, Nat.reduceAdd, Nat.reduceSub]))
   refine AW.region ?_
   refine awP (op_move rfl rfl) ?_
   (first | refine awP (op_subi rfl rfl rfl (by omega)) ?_ | refine awP (op_sub rfl rfl rfl rfl) ?_)
   refine awP (op_assign rfl rfl) ?_
   refine AWL.gh (Gh.drop 2) ?_; (try simp only [nA, Nat.reduceBEq, Nat.reduceEqDiff, ↓reduceIte, Nat.reduceAdd, Nat.reduceSub])
   refine AWL.nil ?_
   refine ⟨(f, rawN l k, ps ++ [(npr l (gmod (rawV l k0) 8) k ps.length)], _, _), ⟨by simp; omega, by simp; omega, by simp only [List.mem_append, List.mem_singleton]; rintro p (hp | rfl); exact hI.2.2.1 p hp; exact pick_w l k, hR⟩, by dsimp only; omega, ⟨rfl, rfl, rfl, (by show AV.v (Value.int .i64 (((f + 1 : Nat) : Int) - 1)) = AV.v (Value.int .i64 (f : Nat)); congr 2; omega), trivial⟩, (by first | rfl | trivial), (by first | rfl | trivial)⟩
  ·
   (try simp only [hcS] at hc); have hc1 := hc; obtain rfl : f = 0 := (by omega); have hE := hI.2.2.2; rw [partsF_0] at hE; obtain ⟨p, qs, rfl⟩ : ∃ p qs, ps = p :: qs := (by cases ps with | nil => simp at hI | cons a b => exact ⟨a, b, rfl⟩); have hp := hI.2.2.1 p (by simp)
   refine AW.exit ?_; (try simp only [thenE, inBlk, Nat.reduceEqDiff, ↓reduceIte])
   clear hK K
   (refine hK _ ?_; clear hK K; (try simp only [nA, Nat.reduceBEq, Nat.reduceEqDiff, ↓reduceIte, Nat.reduceAdd, Nat.reduceSub]))
   (refine AW.seq_k ?_; intro K hK)
   refine AW.quiet_tail 13 mix (by kernel_rfl) rfl rfl ?_
   refine aqP (op_move rfl rfl) ?_
   (first | refine aqP (op_ia_ro _ rfl (.inl rfl) rfl Try.underlying22 rfl (get_map (by omega)) (by exact sz25) (Nat.le_of_ble_eq_true rfl)) ?_ | refine aqP (op_ia_sl 0 2 rfl rfl rfl rfl Try.underlying22 rfl (by omega) (by exact sz25) rfl) ?_)
   (first | refine aqP (op_fa_ptr rfl rfl rfl fl25_1 (by exact sz3) (by decide) rfl) ?_ | refine aqP (op_fa_rop rfl rfl fl25_1 (by exact sz3) (by decide) (Nat.le_of_ble_eq_true rfl) rfl) ?_)
   (first | refine aqR (op_load_ptr1 rfl rfl rfl rfl ag3 rfl rfl) ?_ | refine aqR (op_load_rop1 rfl rfl ag3) ?_)
   refine aqP (op_move rfl rfl) ?_
   (first | refine aqP (op_ia_ro _ rfl (.inl rfl) rfl Try.underlying22 rfl (get_map (by omega)) (by exact sz25) (Nat.le_of_ble_eq_true rfl)) ?_ | refine aqP (op_ia_sl 0 2 rfl rfl rfl rfl Try.underlying22 rfl (by omega) (by exact sz25) rfl) ?_)
   (first | refine aqP (op_fa_ptr rfl rfl rfl fl25_1 (by exact sz3) (by decide) rfl) ?_ | refine aqP (op_fa_rop rfl rfl fl25_1 (by exact sz3) (by decide) (Nat.le_of_ble_eq_true rfl) rfl) ?_)
   (first | refine aqR (op_load_ptr1 rfl rfl rfl rfl ag3 rfl rfl) ?_ | refine aqR (op_load_rop1 rfl rfl ag3) ?_)
   refine aqP (op_min (r := min 1 p.amt) rfl rfl rfl (by split <;> omega)) ?_
   (first | refine aqP (op_subi rfl rfl rfl (by omega)) ?_ | refine aqP (op_sub rfl rfl rfl rfl) ?_)
   (first | refine aqP (op_addi rfl rfl rfl (by omega)) ?_ | refine aqP (op_add rfl rfl rfl rfl) ?_)
   (first | refine aqP (op_ia_ro _ rfl (.inl rfl) rfl Try.underlying22 rfl (get_map (by omega)) (by exact sz25) (Nat.le_of_ble_eq_true rfl)) ?_ | refine aqP (op_ia_sl 0 2 rfl rfl rfl rfl Try.underlying22 rfl (by omega) (by exact sz25) rfl) ?_)
   (first | refine aqP (op_fa_ptr rfl rfl rfl fl25_1 (by exact sz3) (by decide) rfl) ?_ | refine aqP (op_fa_rop rfl rfl fl25_1 (by exact sz3) (by decide) (Nat.le_of_ble_eq_true rfl) rfl) ?_)
   refine AQ.nil ?_
   refine awJ (op_store rfl rfl rfl rfl rfl rfl sz3 rfl (Nat.le_of_ble_eq_true rfl) rfl) ?_; (try simp only [nA, Nat.reduceBEq, Nat.reduceEqDiff, ↓reduceIte, Nat.reduceAdd, Nat.reduceSub])
   refine AWL.nil ?_
   (refine hK _ ?_; clear hK K; (try simp only [nA, Nat.reduceBEq, Nat.reduceEqDiff, ↓reduceIte, Nat.reduceAdd, Nat.reduceSub]))
   (refine AW.seq_k ?_; intro K hK)
   refine AW.region ?_
   refine awP (op_move rfl rfl) ?_
   refine awP (op_assign rfl rfl) ?_
   refine AWL.nil ?_
   (refine hK _ ?_; clear hK K; (try simp only [nA, Nat.reduceBEq, Nat.reduceEqDiff, ↓reduceIte, Nat.reduceAdd, Nat.reduceSub]))
   refine AW.gh (Gh.freeze 4 (Nat.le_of_ble_eq_true rfl) rfl rfl (Pr.flat (fstUp (p :: qs))) (es' := (fstUp (p :: qs)).map Pr.av) (by rw [List.take_of_length_le (by simp)])) ?_; (try simp only [nA, Nat.reduceBEq, Nat.reduceEqDiff, ↓reduceIte, Nat.reduceAdd, Nat.reduceSub])
   refine AW.ret ?_; (try simp only [thenE, inBlk, Nat.reduceEqDiff, ↓reduceIte]); rw [show partsV l k0 n = (fstUp (p :: qs), k) by unfold partsV; rw [← hE]]; exact RQ.of (.inl rfl) rfl (.tmp (Nat.le_of_ble_eq_true rfl) rfl rfl .nil) (by simp) rfl (one_out rfl)
end Go.Proofs.Ytnflkbgappgdiaa
