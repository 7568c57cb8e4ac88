/- A slice of pods as a datum: opened. -/
import Derived.Test.YtjngkmfkgbcjjaaDoorPodRow
import Derived.Test.YtjngkmfkgbcjjaaDoorSums
import Derived.Test.YtjngkmfkgbcjjaaDoorAgain
namespace Go.Proofs.YtjngkmfkgbcjjaaDoor
open Go.ChangeShapes Go.WideShapes Go.ChangeAt Go.RowKit
theorem open_pods {H : Type} {enc : TypeId × Value → H} {w : World} {base : Nat} {spare : Nat → Bool} {held : Bool} {r : Reach} {b0 : Nat} {v : Value} {d : DataW H} {ps : List MemPlace} (hval : Value.okWide Tryd.prog w r b0 41 v) (hd : DataW.Trod enc Tryd.prog w base spare held 41 v d ps) :
    ∃ A l c, v = .slice A l.length c ∧ l.length ≤ c ∧ c ≤ 9223372036854775807 ∧ Rds w encP A l ∧ ∀ x ∈ l, Pd.Wf x :=
  open_rds_val Tryd.underlying41 encP cellsP Pd.Wf (fun _ _ _ h => by obtain ⟨p, hp, hc, _⟩ := trod_pd h; exact ⟨p, hp, hc⟩) hval hd
end Go.Proofs.YtjngkmfkgbcjjaaDoor
