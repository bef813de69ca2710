import Derived.Test.YtngfknoddphhaaaAb17
namespace Go.Proofs.Ytngfknoddphhaaa
open Go.RowKit
set_option linter.unusedSimpArgs false
set_option linter.unusedVariables false

section
variable {P : Program} {fn : Func} {σ : Sta} {e : Exit}
/-- The end of a body without slots that came in: its results, one behind the other. -/
inductive Rets (P : Program) (σ : Sta) : List ResultVar → List Nat → List AV → Prop
  | nil : Rets P σ [] [] []
  | tmp {t rs us y ys} (ht : t < σ.n) (hy : σ.env t = y) (hc : nrefA y = true) (h : Rets P σ rs us ys) : Rets P σ (.tmp t :: rs) us (y :: ys)
  | own {t rs us ys r k ty es len} (ht : t < σ.n) (hy : σ.env t = .sl r k 0 len) (hT : σ.T.slots[r]? = some (k, .own ty es)) (hl : len = es.length) (hu : r ∉ us) (h : Rets P σ rs us ys) : Rets P σ (.tmp t :: rs) (r :: us) (.own ty es :: ys)
  | cell {t ty rs us ys r k i j et es row n cs} (ht : t < σ.n) (hy : σ.env t = .ptr r k i j) (hT : σ.T.slots[r]? = some (k, .own et es)) (hrow : es[i]? = some row) (ha : aggB P ty = some true) (hs : sizeIs P ty n) (hn : j + n ≤ row.length) (hc : ((row.drop j).take n).map ldc = cs) (hr : cs.all nref1 = true) (h : Rets P σ rs us ys) : Rets P σ (.cell t ty :: rs) us (.agg cs :: ys)
  | cell1 {t ty rs us ys r k i j et es row y} (ht : t < σ.n) (hy : σ.env t = .ptr r k i j) (hT : σ.T.slots[r]? = some (k, .own et es)) (hrow : es[i]? = some row) (ha : aggB P ty = some false) {x : AV} (hx : row[j]? = some x) (hc : ldc x = y) (hr : nrefA y = true) (h : Rets P σ rs us ys) : Rets P σ (.cell t ty :: rs) us (y :: ys)
theorem clo_of_nref {n : Nat} {y : AV} (h : nrefA y = true) : cloA n y = true := by
  have one : ∀ x, nref1 x = true → clo1 n x = true := fun x h => by cases x <;> first | rfl | cases h
  cases y with
  | agg cs =>
    simp only [nrefA, cloA, List.all_eq_true] at h ⊢
    exact fun x hx => one x (h x hx)
  | _ => simp only [nrefA, cloA] at h ⊢; exact one _ h
theorem Rets.out {n0 : Nat} : ∀ {rs : List ResultVar} {us : List Nat} {ys : List AV}, Rets P σ rs us ys → (∀ r ∈ us, n0 ≤ r) → ∃ zs, RL (ResIs P σ) rs zs ∧ Gives σ.T n0 us zs ys
  | _, _, _, .nil, _ => ⟨[], RL.nil, .nil⟩
  | _, _, _, .tmp ht hy hc h, hu => by
    obtain ⟨zs, h1, h2⟩ := h.out hu
    exact ⟨_, RL.cons ⟨ht, hy⟩ h1, .keep (clo_of_nref hc) h2⟩
  | _, _, _, .own ht hy hT hl hn h, hu => by
    obtain ⟨zs, h1, h2⟩ := h.out fun r hr => hu r (by simp [hr])
    exact ⟨_, RL.cons ⟨ht, hy⟩ h1, .own hT hl (hu _ (by simp)) hn h2⟩
  | _, _, _, .cell ht hy hT hrow ha hs hn hc hr h, hu => by
    obtain ⟨zs, h1, h2⟩ := h.out hu
    exact ⟨_, RL.cons ⟨ht, _, _, _, _, _, _, _, hy, hT, hrow, .inl ⟨ha, _, hs, hn, by exact hc, _, rfl⟩⟩ h1, .keep (clo_of_nref hr) h2⟩
  | _, _, _, .cell1 ht hy hT hrow ha hx hc hr h, hu => by
    obtain ⟨zs, h1, h2⟩ := h.out hu
    exact ⟨_, RL.cons ⟨ht, _, _, _, _, _, _, _, hy, hT, hrow, .inr ⟨ha, _, hx, hc⟩⟩ h1, .keep (clo_of_nref hr) h2⟩
theorem RQ.of {n0 : Nat} {rs : List ResultVar} {us : List Nat} {ys outs : List AV} (he : e = .ret ∨ e = .normal) (hr : fn.results.toList = rs) (h : Rets P σ rs us ys) (hu : ∀ r ∈ us, n0 ≤ r) (hl : outs.length = n0) (ho : ∀ (r : Nat) (x : AV), outs[r]? = some x → σ.T.slots[r]? = some (0, x)) : RQ P fn n0 (fun a b => a = ys ∧ b = outs) e σ := by
  obtain ⟨zs, h1, h2⟩ := h.out hu
  rcases he with rfl | rfl <;> exact ⟨zs, ys, us, outs, by rw [hr]; exact h1, h2, hl, ho, rfl, rfl⟩
theorem RQ.of0 {rs : List ResultVar} {us : List Nat} {ys : List AV} (hr : fn.results.toList = rs) (h : Rets P σ rs us ys) (he : e = .ret ∨ e = .normal := by first | exact .inl rfl | exact .inr rfl) : RQ P fn 0 (fun a b => a = ys ∧ b = []) e σ :=
  RQ.of he hr h (fun _ _ => Nat.zero_le _) rfl (by simp)
end
/-- A state that is known at some places. -/
def updL (env : Nat → AV) : List (Nat × AV) → (Nat → AV)
  | [] => env
  | (t, x) :: l => upd (updL env l) t x
def AllEq (env : Nat → AV) : List (Nat × AV) → Prop
  | [] => True
  | (t, x) :: l => env t = x ∧ AllEq env l
theorem updL_self {env : Nat → AV} : ∀ {l : List (Nat × AV)}, AllEq env l → updL env l = env
  | [], _ => rfl
  | (t, x) :: l, ⟨h1, h2⟩ => by
    funext q
    unfold updL upd
    rw [updL_self h2]
    split
    · rename_i h; rw [h, h1]
    · rfl
section
variable {C : Cx} {Q : Exit → Sta → Prop} {σ : Sta}
/-- A loop; i says in which state a round begins. -/
theorem AW.loopI {ι : Type} {c : Code} (l : ι → List (Nat × AV)) (T : ι → Sl) (H : ι → Prop) (μ : ι → Nat) (i0 : ι) (h0 : H i0) (he : AllEq σ.env (l i0)) (hT : σ.T = T i0)
    (round : ∀ i ρ, H i → AW C c (thenE (fun σ' => ∃ i', H i' ∧ μ i' < μ i ∧ AllEq σ'.env (l i') ∧ σ'.T = T i' ∧ σ'.n = σ.n) Q) ⟨updL ρ (l i), T i, σ.n⟩) : AW C (.loop c) Q σ := by
  intro a w hs b k cs
  have key : ∀ n i σ' a w, μ i = n → H i → AllEq σ'.env (l i) → σ'.T = T i → σ'.n = σ.n → St C σ' a w →
      ∃ e a' w', hat C Q e a' w' ∧ Arrives C.P (lone (b.at a (.code c :: .inLoop c :: k)) cs w) b k cs e a' w' := by
    intro n
    induction n using Nat.strongRecOn with
    | _ n ih =>
      intro i σ' a w hi hH he' hT' hn' hs
      have hr := round i σ'.env hH
      rw [updL_self he', ← hT', ← hn'] at hr
      obtain ⟨e, a₁, w₁, ⟨σ₁, hs₁, hq⟩, harr⟩ := hr a w hs b (.inLoop c :: k) cs
      cases e with
      | normal =>
        obtain ⟨i', g1, g2, g3, g4, g5⟩ := hq
        obtain ⟨e₂, a₂, w₂, hq₂, harr₂⟩ := ih (μ i') (hi ▸ g2) i' σ₁ a₁ w₁ rfl g1 g3 g4 (by rw [g5, hn']) hs₁
        exact ⟨e₂, a₂, w₂, hq₂, .of_steps (Steps.trans harr (.one step_inLoop)) harr₂⟩
      | exit id => exact ⟨_, a₁, w₁, ⟨σ₁, hs₁, hq⟩, .pass (x := .inLoop c) rfl (fun _ _ => .inl (by simp)) harr⟩
      | goto l => exact ⟨_, a₁, w₁, ⟨σ₁, hs₁, hq⟩, .pass (x := .inLoop c) rfl (fun _ _ => .inl (by simp)) harr⟩
      | ret => exact ⟨_, a₁, w₁, ⟨σ₁, hs₁, hq⟩, .pass (x := .inLoop c) rfl (fun _ _ => .inl (by simp)) harr⟩
      | panic ch => exact ⟨_, a₁, w₁, ⟨σ₁, hs₁, hq⟩, .pass (x := .inLoop c) rfl (fun _ _ => .inl (by simp)) harr⟩
      | outgrown => exact ⟨_, a₁, w₁, ⟨σ₁, hs₁, hq⟩, .pass (x := .inLoop c) rfl (fun _ _ => .inl (by simp)) harr⟩
  obtain ⟨e, a', w', hq, harr⟩ := key _ i0 σ a w rfl h0 he hT rfl hs
  exact ⟨e, a', w', hq, .of_steps (.one step_loop) harr⟩
end
/-! ### Reading the environment -/
theorem evA_tmp {env : Nat → AV} {t : Nat} : evA env (.tmp t) = env t := rfl
theorem evA_int {env : Nat → AV} {k : IntKind} {n : Int} : evA env (.const (.int k n)) = .v (.int k n) := rfl
theorem evA_bool {env : Nat → AV} {b : Bool} : evA env (.const (.bool b)) = .v (.bool b) := rfl
theorem evA_str {env : Nat → AV} {s : ByteArray} : evA env (.const (.string s)) = .v (.string s) := rfl
theorem evA_slice {env : Nat → AV} {a : Option Addr} {n c : Nat} : evA env (.const (.slice a n c)) = .v (.slice a n c) := rfl
theorem evA_func {env : Nat → AV} {f : FuncId} : evA env (.func f) = .v (.func (.func f) #[] #[]) := rfl
theorem putE_some {env : Nat → AV} {d : Nat} {x : AV} : putE env (some d) x = upd env d x := rfl
theorem putE_none {env : Nat → AV} {x : AV} : putE env none x = env := rfl
theorem upd_get {env : Nat → AV} {d t : Nat} {x : AV} : upd env d x t = if t = d then x else env t := rfl
theorem era_get {W : List Nat} {env : Nat → AV} {t : Nat} : era W env t = if W.contains t then .any else env t := rfl
end Go.Proofs.Ytngfknoddphhaaa
