import Derived.Test.YtngfknoddphhaaaAb28
namespace Go.Proofs.Ytngfknoddphhaaa
open Go.RowKit
set_option linter.unusedSimpArgs false
set_option linter.unusedVariables false

theorem lcS : (∀ x, ldc (.v x) = .v x) ∧ (∀ x, ldc (.ro x) = .ro x) ∧ (∀ x, ldc (.rof x) = .rof x) ∧ (∀ x, ldc (.rop x) = .rop x) ∧ (∀ e x, ldc (.own e x) = .sln x.length) ∧ (∀ n, ldc (.sln n) = .sln n) ∧ ldc .any = .any ∧
    (∀ x, stc (.v x) = .v x) ∧ (∀ x, stc (.ro x) = .ro x) ∧ (∀ x, stc (.rof x) = .rof x) ∧ (∀ x, stc (.rop x) = .rop x) ∧ (∀ n, stc (.sln n) = .sln n) ∧ stc .any = .any ∧ (∀ a b c d, stc (.sl a b c d) = .any) ∧ (∀ a b c d, stc (.ptr a b c d) = .any) :=
  ⟨fun _ => rfl, fun _ => rfl, fun _ => rfl, fun _ => rfl, fun _ _ => rfl, fun _ => rfl, rfl, fun _ => rfl, fun _ => rfl, fun _ => rfl, fun _ => rfl, fun _ => rfl, rfl, fun _ _ _ _ => rfl, fun _ _ _ _ => rfl⟩
theorem evS : (∀ (env : Nat → AV) t, evA env (.tmp t) = env t) ∧ (∀ (env : Nat → AV) k n, evA env (.const (.int k n)) = .v (.int k n)) ∧ (∀ (env : Nat → AV) b, evA env (.const (.bool b)) = .v (.bool b)) ∧ (∀ (env : Nat → AV) s, evA env (.const (.string s)) = .v (.string s)) ∧
    (∀ (env : Nat → AV) a n c, evA env (.const (.slice a n c)) = .v (.slice a n c)) ∧ (∀ (env : Nat → AV) f, evA env (.func f) = .v (.func (.func f) #[] #[])) ∧ (∀ (env : Nat → AV) d x, putE env (some d) x = upd env d x) ∧ (∀ (env : Nat → AV) x, putE env none x = env) :=
  ⟨fun _ _ => rfl, fun _ _ _ => rfl, fun _ _ => rfl, fun _ _ => rfl, fun _ _ _ _ => rfl, fun _ _ => rfl, fun _ _ _ => rfl, fun _ _ => rfl⟩
end Go.Proofs.Ytngfknoddphhaaa
