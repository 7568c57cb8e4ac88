/- A text among the arguments of a row. -/
import Derived.Test.YtampjkgkiooibaaDoorAgain
namespace Go.Proofs.YtampjkgkiooibaaDoor
open Go.ChangeShapes Go.WideShapes Go.ChangeAt Go.RowKit
set_option maxRecDepth 100000 in
theorem open_str {H : Type} {enc : TypeId × Value → H} {w : World} {base : Nat} {spare : Nat → Bool} {held : Bool} {r : Reach} {b0 : Nat} {v : Value} {d : DataW H} {ps : List MemPlace} (hval : Value.okWide Tryd.prog w r b0 9 v) (hd : DataW.Trod enc Tryd.prog w base spare held 9 v d ps) :
    ∃ s : ByteArray, v = .string s ∧ s.size ≤ 9223372036854775807 := by
  obtain ⟨s, rfl⟩ := okWide_string Tryd.underlying9 hval
  obtain ⟨fuel, hf⟩ := hd
  obtain ⟨s', e0, _, w0⟩ := DataW.trod_string Tryd.underlying9 hf
  simp only [Value.cells, List.cons.injEq, and_true] at e0
  injection e0 with e0
  subst e0
  unfold maxLen at w0
  exact ⟨s, rfl, by simp at w0; omega⟩
end Go.Proofs.YtampjkgkiooibaaDoor
