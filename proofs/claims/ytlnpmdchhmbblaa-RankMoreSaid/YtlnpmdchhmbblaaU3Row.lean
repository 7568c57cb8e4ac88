/- Three 32-bit numbers, a byte among the arguments of a row. -/
import Derived.Test.YtlnpmdchhmbblaaRankTwo
import Derived.Test.YtlnpmdchhmbblaaPodRowR
import Derived.Test.YtlnpmdchhmbblaaU8Row
namespace Go.Proofs.Ytlnpmdchhmbblaa
open Go.ChangeShapes Go.WideShapes Go.ChangeAt Go.RowKit
section
variable {H : Type} {enc : TypeId × Value → H} {w : World} {base : Nat} {spare : Nat → Bool} {held : Bool}
theorem okWide_array {P : Program} {r : Reach} {b0 n : Nat} {t e : TypeId} {v : Value} (ht : P.underlying t = some (.array n e)) (h : Value.okWide P w r b0 t v) : ∃ cs, v = .agg cs ∧ cs.size = P.cellsOf t := by
  simp only [Value.okWide, ht] at h
  obtain ⟨cs, h1, h2, _⟩ := h
  exact ⟨cs, h1, h2⟩
theorem wf_u32 {n : Int} (h : (Lit.int .u32 n).wf = true) : 0 ≤ n ∧ n ≤ 4294967295 := by
  have e1 : IntKind.u32.min = 0 := by decide
  have e2 : IntKind.u32.max = 4294967295 := by decide
  simpa [Lit.wf, e1, e2] using h
theorem cellsU : Try.prog.cellsOf 25 = 1 := by kernel_rfl
theorem cellsU3 : Try.prog.cellsOf 26 = 3 := by kernel_rfl
set_option maxRecDepth 100000 in
theorem open_u3 {r : Reach} {b0 : Nat} {v : Value} {d : DataW H} {ps : List MemPlace} (hval : Value.okWide Try.prog w r b0 26 v) (hd : DataW.Trod enc Try.prog w base spare held 26 v d ps) :
    ∃ u : U3, u.Wf ∧ v = .agg (c3 u) := by
  obtain ⟨cs, rfl, hl⟩ := okWide_array Try.underlying26 hval
  obtain ⟨fuel, hf⟩ := hd
  rw [cellsU3] at hl
  obtain ⟨cs⟩ := cs
  match cs, hl with
  | [d0, d1, d2], _ =>
  obtain ⟨y0, y1, y2, n, _, h0, h1, h2⟩ := trod_array3 Try.underlying26 cellsU hf
  obtain ⟨a, e0, rfl, w0⟩ := DataW.trod_int Try.underlying25 h0
  obtain ⟨b, e1, rfl, w1⟩ := DataW.trod_int Try.underlying25 h1
  obtain ⟨c, e2, rfl, w2⟩ := DataW.trod_int Try.underlying25 h2
  simp only [List.cons.injEq, and_true] at e0 e1 e2
  subst e0 e1 e2
  have := wf_u32 w0; have := wf_u32 w1; have := wf_u32 w2
  exact ⟨⟨a.toNat, b.toNat, c.toNat⟩, ⟨by simp only; omega, by simp only; omega, by simp only; omega⟩, by simp only [c3]; rw [Int.toNat_of_nonneg (by omega), Int.toNat_of_nonneg (by omega), Int.toNat_of_nonneg (by omega)]⟩
end
end Go.Proofs.Ytlnpmdchhmbblaa
