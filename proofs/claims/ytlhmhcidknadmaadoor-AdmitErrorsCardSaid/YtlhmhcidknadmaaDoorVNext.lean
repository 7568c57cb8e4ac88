/- bilgeref21.next: of those that may go and weren't asked, the one that is asked first. -/
import Derived.Test.YtlhmhcidknadmaaDoorVFixed
namespace Go.Proofs.YtlhmhcidknadmaaDoor
open Go.RowKit

theorem BestAt.cases_ {q : Pd → Bool} {l : List Pd} {k : Nat} {z : Int} (h : BestAt q l k z) : z = -1 ∨ ∃ j, j < l.length ∧ z = (j : Int) := by
  rcases h with ⟨h, _⟩ | ⟨j, hj, h, _⟩
  · exact .inl h
  · exact .inr ⟨j, hj, h⟩
theorem vlt_no {x y : Pd} (h1 : ¬ y.prio < x.prio) (h2 : x.prio = y.prio → blt x.id y.id = false) : vlt x y = false := by
  cases h : vlt x y
  · rfl
  · rcases (vlt_iff x y).1 h with h3 | ⟨h3, h4⟩
    · exact absurd h3 h1
    · rw [h2 h3] at h4; cases h4
end Go.Proofs.YtlhmhcidknadmaaDoor
