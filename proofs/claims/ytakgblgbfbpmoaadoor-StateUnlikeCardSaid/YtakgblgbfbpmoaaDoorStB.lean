/- Same of bytes, at a given answer. -/
import Derived.Test.YtakgblgbfbpmoaaDoorMT
namespace Go.Proofs.YtakgblgbfbpmoaaDoor
open Go.RowKit

theorem sameB_any {L M : List UInt8} {v : Bool} (hv : (L == M) = v) {n m : Nat} (hn : n = L.length) (hm : m = M.length) (A B : Option Addr) (c d : Nat) (w : World) (h1 : Rds w encB A L) (h2 : Rds w encB B M) :
    Calls Tryd.prog 16 #[.slice A n c, .slice B m d] w fun e w' => e = .returned (.bool v) ∧ Below w.heap.size w w' := by
  subst hn; subst hm; subst hv
  exact (same_any A B L M c d w h1 h2).mono fun e w' h => ⟨h.1, by rw [← h.2]; exact Below.refl _ _⟩
end Go.Proofs.YtakgblgbfbpmoaaDoor
