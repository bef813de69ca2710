import Derived.Test.YtnedeajebhbjbaaBur2
import Derived.WideKeyArr2
import Derived.ProofKit
namespace Go.Proofs.Ytnedeajebhbjbaa
open Go.RowKit Go.ChangeShapes Go.WideShapes
theorem arr45 : WideMaps.ArrKey Try.prog 45 5 4 := ⟨by kernel_rfl, by kernel_rfl, by kernel_rfl, by kernel_rfl⟩
theorem open_byte {H : Type} {enc : TypeId × Value → H} {W : World} {base : Nat} {sp : Nat → Bool} {m : Nat} {cs : List Value} {y : DataW H × List MemPlace} (h : DataW.trod enc Try.prog W base sp true m 5 cs = some y) : ∃ b : UInt8, cs = [.int .u8 (b.toNat : Int)] := by
  obtain ⟨a, ea, -, wa⟩ := DataW.trod_int under5 h
  simp [Lit.wf] at wa
  have e1 : IntKind.u8.min = 0 := rfl
  have e2 : IntKind.u8.max = 255 := rfl
  refine ⟨UInt8.ofNat a.toNat, ?_⟩
  rw [ea]
  congr 2
  simp
  omega
theorem open_four {H : Type} {enc : TypeId × Value → H} {W : World} {r : Reach} {base b0 : Nat} {sp : Nat → Bool} {v : Value} {d : DataW H} {ps : List MemPlace} (hval : Value.okWide Try.prog W r b0 45 v) (hd : DataW.Trod enc Try.prog W base sp true 45 v d ps) :
    ∃ b0 b1 b2 b3 : UInt8, v = .agg #[.int .u8 b0.toNat, .int .u8 b1.toNat, .int .u8 b2.toNat, .int .u8 b3.toNat] := by
  obtain ⟨xs, rfl, hn⟩ := WideMaps.okWide_arr arr45 hval
  obtain ⟨fuel, hf⟩ := hd
  obtain ⟨xs⟩ := xs
  match xs, hn with
  | [x0, x1, x2, x3], _ =>
    cases fuel with
    | zero => simp [DataW.trod] at hf
    | succ m =>
      rw [DataW.trod_step] at hf
      unfold DataW.trodStep at hf
      simp only [under45, Value.cells] at hf
      rw [if_pos (by rw [arr45.size]; rfl)] at hf
      simp only [Option.map_eq_some_iff] at hf
      obtain ⟨ys, hy, -⟩ := hf
      rw [cells5, show List.range 4 = [0, 1, 2, 3] by decide] at hy
      simp only [List.mapM_cons, bind, Option.bind_eq_some_iff] at hy
      obtain ⟨y0, h0, _, ⟨y1, h1, _, ⟨y2, h2, _, ⟨y3, h3, -⟩, -⟩, -⟩, -⟩ := hy
      obtain ⟨c0, e0⟩ := open_byte h0
      obtain ⟨c1, e1⟩ := open_byte h1
      obtain ⟨c2, e2⟩ := open_byte h2
      obtain ⟨c3, e3⟩ := open_byte h3
      simp at e0 e1 e2 e3
      exact ⟨c0, c1, c2, c3, by rw [e0, e1, e2, e3]⟩
end Go.Proofs.Ytnedeajebhbjbaa
