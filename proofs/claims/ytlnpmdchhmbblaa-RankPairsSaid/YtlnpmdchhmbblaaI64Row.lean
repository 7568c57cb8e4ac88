/- A number among the arguments of a row. -/
import Derived.Test.YtlnpmdchhmbblaaRawRow
namespace Go.Proofs.Ytlnpmdchhmbblaa
open Go.ChangeShapes Go.WideShapes Go.ChangeAt Go.RowKit
section
variable {H : Type} {enc : TypeId × Value → H} {w : World} {base : Nat} {spare : Nat → Bool} {held : Bool}
set_option maxRecDepth 100000 in
theorem open_i64 {r : Reach} {b0 : Nat} {v : Value} {d : DataW H} {ps : List MemPlace} (hval : Value.okWide Try.prog w r b0 3 v) (hd : DataW.Trod enc Try.prog w base spare held 3 v d ps) : ∃ n : Int, v = .int .i64 n ∧ I64 n := by
  obtain ⟨n, rfl⟩ := okWide_int Try.underlying3 hval
  obtain ⟨fuel, hf⟩ := hd
  obtain ⟨a, hcs, _, wf⟩ := DataW.trod_int Try.underlying3 hf
  simp only [Value.cells, List.cons.injEq, and_true] at hcs
  injection hcs with _ hcs
  subst hcs
  exact ⟨n, rfl, wf_I64.1 wf⟩
end
end Go.Proofs.Ytlnpmdchhmbblaa
