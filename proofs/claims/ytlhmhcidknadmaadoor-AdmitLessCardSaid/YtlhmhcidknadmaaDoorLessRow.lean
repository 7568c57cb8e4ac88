/- Three small numbers, and one of 64 bits, among the arguments of a row. -/
import Derived.Test.YtlhmhcidknadmaaDoorVRow
namespace Go.Proofs.YtlhmhcidknadmaaDoor
open Go.ChangeShapes Go.WideShapes Go.ChangeAt Go.RowKit
section
variable {H : Type} {enc : TypeId × Value → H} {w : World} {base : Nat} {spare : Nat → Bool} {held : Bool}
theorem wf_u16 {n : Int} (h : (Lit.int .u16 n).wf = true) : 0 ≤ n ∧ n ≤ 65535 := by
  have e1 : IntKind.u16.min = 0 := by decide
  have e2 : IntKind.u16.max = 65535 := by decide
  simpa [Lit.wf, e1, e2] using h
theorem cellsU16 : Tryd.prog.cellsOf 54 = 1 := by kernel_rfl
theorem cellsU316 : Tryd.prog.cellsOf 55 = 3 := by kernel_rfl
set_option maxRecDepth 100000 in
theorem open_u163 {r : Reach} {b0 : Nat} {v : Value} {d : DataW H} {ps : List MemPlace} (hval : Value.okWide Tryd.prog w r b0 55 v) (hd : DataW.Trod enc Tryd.prog w base spare held 55 v d ps) :
    ∃ m0 m1 m2 : Int, (0 ≤ m0 ∧ m0 ≤ 65535) ∧ (0 ≤ m1 ∧ m1 ≤ 65535) ∧ (0 ≤ m2 ∧ m2 ≤ 65535) ∧ v = .agg #[.int .u16 m0, .int .u16 m1, .int .u16 m2] := by
  obtain ⟨cs, rfl, hl⟩ := okWide_array Tryd.underlying55 hval
  obtain ⟨fuel, hf⟩ := hd
  rw [cellsU316] at hl
  obtain ⟨cs⟩ := cs
  match cs, hl with
  | [d0, d1, d2], _ =>
  obtain ⟨y0, y1, y2, n, _, h0, h1, h2⟩ := trod_array3 Tryd.underlying55 cellsU16 hf
  obtain ⟨a, e0, rfl, w0⟩ := DataW.trod_int Tryd.underlying54 h0
  obtain ⟨b, e1, rfl, w1⟩ := DataW.trod_int Tryd.underlying54 h1
  obtain ⟨c, e2, rfl, w2⟩ := DataW.trod_int Tryd.underlying54 h2
  simp only [List.cons.injEq, and_true] at e0 e1 e2
  subst e0 e1 e2
  exact ⟨a, b, c, wf_u16 w0, wf_u16 w1, wf_u16 w2, rfl⟩
set_option maxRecDepth 100000 in
theorem open_u64 {r : Reach} {b0 : Nat} {v : Value} {d : DataW H} {ps : List MemPlace} (hval : Value.okWide Tryd.prog w r b0 66 v) (hd : DataW.Trod enc Tryd.prog w base spare held 66 v d ps) :
    ∃ z : Int, 0 ≤ z ∧ z ≤ 18446744073709551615 ∧ v = .int .u64 z := by
  obtain ⟨n, rfl⟩ := okWide_int Tryd.underlying66 hval
  obtain ⟨fuel, hf⟩ := hd
  obtain ⟨a, hcs, _, wf⟩ := DataW.trod_int Tryd.underlying66 hf
  simp only [Value.cells, List.cons.injEq, and_true] at hcs
  injection hcs with _ hcs
  subst hcs
  have e1 : IntKind.u64.min = 0 := by decide
  have e2 : IntKind.u64.max = 18446744073709551615 := by decide
  have h2 : 0 ≤ n ∧ n ≤ 18446744073709551615 := by simpa [Lit.wf, e1, e2] using wf
  exact ⟨n, h2.1, h2.2, rfl⟩
end
end Go.Proofs.YtlhmhcidknadmaaDoor
