/- A region that draws its order, walked by hand: an operation that is the only one to come up, with or without a slot. -/
import Derived.Test.YtkpcinkpdonihaaDoorHeld
namespace Go.Proofs.YtkpcinkpdonihaaDoor
open Go
section
variable {P : Program} {ops : Array Oper} {Q : Exit → Act → World → Prop} {S : World → Prop} {md : Region.Mode} {fuel : Nat} {listed : Array Bool} {a : Act} {w : World}
theorem held_op (i : Nat) {oi : Oper} (hi : ops[i]? = some oi) (hr : Region.ready md ops listed = [i]) (hw : Region.wanted oi (yielded ops a.tmps) = true)
    (h : ∀ K : Act → World → Prop, (∀ v w', S w' → wpAnyH P md ops Q S fuel (listed.setIfInBounds i true) (a.put oi.dst v) w' → K (a.put oi.dst v) w') → Oper.wp P oi a w K Q) : wpAnyH P md ops Q S (fuel + 1) listed a w := by
  refine wpAnyH_ready (rs := [i]) hr (by simp) ?_
  refine AllReadyH.cons hi (fun K hK => ?_) AllReadyH.nil
  rw [if_pos hw]
  exact h K fun v w' hS hh => hK.out _ _ hS fun _ => hh
theorem held_two (i j : Nat) {oi oj : Oper} (hi : ops[i]? = some oi) (hj : ops[j]? = some oj) (hr : Region.ready md ops listed = [i, j]) (hwi : Region.wanted oi (yielded ops a.tmps) = true) (hwj : Region.wanted oj (yielded ops a.tmps) = true)
    (h1 : ∀ K : Act → World → Prop, (∀ v w', S w' → wpAnyH P md ops Q S fuel (listed.setIfInBounds i true) (a.put oi.dst v) w' → K (a.put oi.dst v) w') → Oper.wp P oi a w K Q)
    (h2 : ∀ K : Act → World → Prop, (∀ v w', S w' → wpAnyH P md ops Q S fuel (listed.setIfInBounds j true) (a.put oj.dst v) w' → K (a.put oj.dst v) w') → Oper.wp P oj a w K Q) : wpAnyH P md ops Q S (fuel + 1) listed a w := by
  refine wpAnyH_ready (rs := [i, j]) hr (by simp) ?_
  refine AllReadyH.cons hi (fun K hK => ?_) (AllReadyH.cons hj (fun K hK => ?_) AllReadyH.nil)
  · rw [if_pos hwi]
    exact h1 K fun v w' hS hh => hK.out _ _ hS fun _ => hh
  · rw [if_pos hwj]
    exact h2 K fun v w' hS hh => hK.out _ _ hS fun _ => hh
end
end Go.Proofs.YtkpcinkpdonihaaDoor
