/- slices.SortFunc at containers, on a row of one's own. -/
import Derived.Test.YtfaklhdafpbkmaaDead
import Derived.Shelf.SlSortCmp.NoneTotal
namespace Go.Proofs.Ytfaklhdafpbkmaa
open Go.RowKit

def Sorts (l : List Cn) (A : Option Addr) (c : Nat) (base : Nat) (w : World) (e : Ending) (w' : World) : Prop :=
  e = .returned (.tuple #[]) ∧ ∃ l' : List Cn, l'.Perm l ∧ (l'.Pairwise fun x y => cnlt y x = false) ∧ Own w' base 35 encC (.slice A l'.length c) l' ∧ w.grownBy w' (Value.slice A l.length c).ownBlock
theorem sortC_any (l : List Cn) (A : Option Addr) (c : Nat) (w : World) (base : Nat) (hown : Own w base 35 encC (.slice A l.length c) l) (hn : l.length ≤ 100000) :
    Calls Try.prog 50 #[.slice A l.length c, .func (.func 51) #[] #[]] w (Sorts l A c base w) := by
  by_cases hl : l = []
  · subst hl
    exact (AnyF.slices_SortFunc_none { Try.sortC with } A c _ w).mono fun e w' ⟨he, hw⟩ => by
      subst hw
      exact ⟨he, [], List.Perm.refl _, List.Pairwise.nil, hown, World.grownBy.refl _ _⟩
  · obtain ⟨g, cap, cur, hv, hb, hg, hnc, hm, hcs, ht⟩ := own_open hown hl
    injection hv with e1 _ e3
    subst e1
    subst e3
    have eg : ∀ args w, (callFunc 51 args).run Try.prog w = .ok (.enter 51 args) w := enters_of Try.func51 (by kernel_rfl) rfl
    have hcon := AnyQ.slices_SortFunc Try.sortC 4 Try.isAgg35 Try.sizeOf35 encC.enc encC.len (fun x v hv => encC.one x v hv) cfC swoC 51 #[] g 0 c l.toArray w eg (cmpLaysC g 0 l.toArray.size w) (holds_of hg ht) hg.lt (by simp; omega)
    have hs : l.toArray.size = l.length := List.size_toArray
    change Calls Try.prog 50 _ _ _ at hcon
    rw [hs] at hcon
    refine hcon.mono fun e w' ⟨he, d', n, os, hp, hsd, hw⟩ => ?_
    subst hw
    rw [← hs] at hp
    obtain ⟨hd, hperm⟩ := perm_of hp
    obtain ⟨ho, hgr⟩ := sortWorld_own (E := encC) (n := n) (os := os) hb hg hd hnc hm hcs
    refine ⟨he, d'.toList, hperm, ?_, ho, hgr⟩
    rw [← hd] at hsd
    have := sorted_of hsd
    exact this.imp fun {x y} h => by rw [← cfC_lt]; exact h
end Go.Proofs.Ytfaklhdafpbkmaa
