/- A number of sixteen bits among the arguments of a row. -/
import Derived.Test.YtampjkgkiooibaaDoorAgain
namespace Go.Proofs.YtampjkgkiooibaaDoor
open Go.ChangeShapes Go.WideShapes Go.ChangeAt Go.RowKit
set_option maxRecDepth 100000 in
theorem open_u16 {H : Type} {enc : TypeId × Value → H} {w : World} {base : Nat} {spare : Nat → Bool} {held : Bool} {r : Reach} {b0 : Nat} {v : Value} {d : DataW H} {ps : List MemPlace} (hval : Value.okWide Tryd.prog w r b0 53 v) (hd : DataW.Trod enc Tryd.prog w base spare held 53 v d ps) :
    ∃ x : Nat, v = .int .u16 x ∧ x < 65536 := by
  obtain ⟨n, rfl⟩ := okWide_int Tryd.underlying53 hval
  obtain ⟨fuel, hf⟩ := hd
  obtain ⟨a, hcs, _, wf⟩ := DataW.trod_int Tryd.underlying53 hf
  simp only [Value.cells, List.cons.injEq, and_true] at hcs
  injection hcs with _ hcs
  subst hcs
  have e1 : IntKind.u16.min = 0 := by decide
  have e2 : IntKind.u16.max = 65535 := by decide
  have h2 : 0 ≤ n ∧ n ≤ 65535 := by simpa [Lit.wf, e1, e2] using wf
  refine ⟨n.toNat, ?_, by omega⟩
  have : (n.toNat : Int) = n := by omega
  rw [this]
end Go.Proofs.YtampjkgkiooibaaDoor
