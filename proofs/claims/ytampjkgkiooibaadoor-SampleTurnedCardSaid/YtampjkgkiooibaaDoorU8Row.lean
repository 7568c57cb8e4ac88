/- A byte among the arguments of a row. -/
import Derived.Test.YtampjkgkiooibaaDoorAgain
namespace Go.Proofs.YtampjkgkiooibaaDoor
open Go.ChangeShapes Go.WideShapes Go.ChangeAt Go.RowKit
set_option maxRecDepth 100000 in
theorem open_u8 {H : Type} {enc : TypeId × Value → H} {w : World} {base : Nat} {spare : Nat → Bool} {held : Bool} {r : Reach} {b0 : Nat} {v : Value} {d : DataW H} {ps : List MemPlace} (hval : Value.okWide Tryd.prog w r b0 5 v) (hd : DataW.Trod enc Tryd.prog w base spare held 5 v d ps) :
    ∃ x : UInt8, v = .int .u8 x.toNat := by
  obtain ⟨n, rfl⟩ := okWide_int Tryd.underlying5 hval
  obtain ⟨fuel, hf⟩ := hd
  obtain ⟨a, hcs, _, wf⟩ := DataW.trod_int Tryd.underlying5 hf
  simp only [Value.cells, List.cons.injEq, and_true] at hcs
  injection hcs with _ hcs
  subst hcs
  have e1 : IntKind.u8.min = 0 := by decide
  have e2 : IntKind.u8.max = 255 := by decide
  have h2 : 0 ≤ n ∧ n ≤ 255 := by simpa [Lit.wf, e1, e2] using wf
  refine ⟨UInt8.ofNat n.toNat, ?_⟩
  have : ((UInt8.ofNat n.toNat).toNat : Int) = n := by
    rw [UInt8.toNat_ofNat']
    omega
  rw [this]
end Go.Proofs.YtampjkgkiooibaaDoor
