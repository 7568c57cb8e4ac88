/- pod.numbers: eight pointers into a pod's box. -/
import Derived.Test.YtkpcinkpdonihaaDoorBytes
import Derived.Deep.RegionHeld3
import Derived.StillTailTactics
import Derived.Outline
namespace Go.Proofs.YtkpcinkpdonihaaDoor
open Go.RowKit

abbrev numPtrs (b : Nat) : Array Value := #[.pointer (some ⟨b, 1, none⟩), .pointer (some ⟨b, 10, none⟩), .pointer (some ⟨b, 3, none⟩), .pointer (some ⟨b, 4, none⟩), .pointer (some ⟨b, 5, none⟩), .pointer (some ⟨b, 6, none⟩), .pointer (some ⟨b, 7, none⟩), .pointer (some ⟨b, 8, none⟩)]

set_option maxHeartbeats 2000000 in
theorem numbers_any (b : Nat) (w : World) :
    Calls Tryd.prog 14 #[.pointer (some ⟨b, 0, none⟩)] w fun e w' => e = .returned (.slice (some ⟨w.heap.size, 0, none⟩) 8 8) ∧ Blk w' w.heap.size 46 (numPtrs b) ∧ Below w.heap.size w w' ∧ w'.heap.size = w.heap.size + 1 := by
  go_enter Tryd.func14, Tryd.ntmps14
  go_wp2
  go_region_with (fail)
  go_wp2
  go_ret
  exact ⟨rfl, Blk.new _ _ _, (Below.refl _ _).drew.alloc (by exact Nat.le_refl _) _, by simp⟩
end Go.Proofs.YtkpcinkpdonihaaDoor
