/- A store of a whole struct into its own box, in a region that draws its order: the world behind it has a name. -/
import Derived.Test.YtampjkgkiooibaaDoorHeldOp
import Derived.Test.YtampjkgkiooibaaDoorBase
namespace Go.Proofs.YtampjkgkiooibaaDoor
open Go.RowKit

section
variable {P : Program} {md : Region.Mode} {ops : Array Oper} {Q : Exit → Act → World → Prop} {S : World → Prop} {fuel : Nat} {listed : Array Bool} {a : Act} {w : World}
theorem held_store (i : Nat) {oi : Oper} (hi : ops[i]? = some oi) (hr : Region.ready md ops listed = [i]) (hw : Region.wanted oi (yielded ops a.tmps) = true) (ty : TypeId) (x y : Operand) (ho : oi.op = .store ty x y)
    (g : Nat) (t : TypeId) (cur cells : Array Value) (hx : a.eval x = .pointer (some ⟨g, 0, none⟩)) (hy : a.eval y = .agg cells)
    (hb : Blk w g t cur) (hs : cells.size = cur.size) (hn : (P.info? ty).map (·.size) = some cells.size) (h1 : cells.all (·.oneCell') = true)
    (h : ∀ w', Blk w' g t cells → w.grownBy w' (some g) → w'.heap.size = w.heap.size → S w' ∧ wpAnyH P md ops Q S fuel (listed.setIfInBounds i true) (a.put oi.dst undef) w') : wpAnyH P md ops Q S (fuel + 1) listed a w := by
  have hth : w.there g 0 cells.size := fun j hj => ⟨by rw [Nat.zero_add, hb.cell j, Array.getElem?_eq_getElem (by omega)]; rfl, by rw [Nat.zero_add]; exact hb.frozen j⟩
  obtain ⟨h2, h3, h4⟩ := setCells_blk g t cells.toList 0 w cur.toList (by simp; omega) (by simpa using hb)
  have e : (cur.toList.take 0 ++ cells.toList ++ cur.toList.drop (0 + cells.toList.length)).toArray = cells := by
    rw [List.drop_of_length_le (by simp; omega)]; simp
  rw [e] at h2
  obtain ⟨s1, s2⟩ := h _ h2 h3 h4
  exact held_op i hi hr hw fun K hK => wp_store_mid ty x y ho g 0 cells hx hy hth hn h1 (hK undef _ s1 s2)
end
end Go.Proofs.YtampjkgkiooibaaDoor
