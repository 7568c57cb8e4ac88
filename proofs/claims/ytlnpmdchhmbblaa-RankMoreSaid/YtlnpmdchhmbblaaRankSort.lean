/- slices.SortFunc at keys, on a row of one's own. -/
import Derived.Test.YtlnpmdchhmbblaaRankKeys
import Derived.Test.YtlnpmdchhmbblaaSortAnyR
import Derived.Test.YtlnpmdchhmbblaaShelf
import Derived.Shelf.SlSortCmp.NoneTotal
namespace Go.Proofs.Ytlnpmdchhmbblaa
open Go.RowKit

def SortsK (l : List Ky) (A : Option Addr) (c : Nat) (base : Nat) (w : World) (e : Ending) (w' : World) : Prop :=
  e = .returned (.tuple #[]) ∧ ∃ l' : List Ky, l'.Perm l ∧ (l'.Pairwise fun x y => klt y x = false) ∧ Own w' base 66 encK (.slice A l'.length c) l' ∧ w.grownBy w' (Value.slice A l.length c).ownBlock
theorem sortK_any (l : List Ky) (A : Option Addr) (c : Nat) (w : World) (base : Nat) (hown : Own w base 66 encK (.slice A l.length c) l) (hn : l.length ≤ 100000) :
    Calls Try.prog 39 #[.slice A l.length c, .func (.func 33) #[] #[]] w (SortsK l A c base w) := by
  by_cases hl : l = []
  · subst hl
    exact (AnyF.slices_SortFunc_none { Try.sortK with } A c _ w).mono fun e w' ⟨he, hw⟩ => by
      subst hw
      exact ⟨he, [], List.Perm.refl _, List.Pairwise.nil, hown, World.grownBy.refl _ _⟩
  · obtain ⟨g, cap, cur, hv, hb, hg, hnc, hm, hcs, ht⟩ := own_open hown hl
    injection hv with e1 _ e3
    subst e1
    subst e3
    have eg : ∀ args w, (callFunc 33 args).run Try.prog w = .ok (.enter 33 args) w := enters_of Try.func33 (by kernel_rfl) rfl
    have hcon := AnyQ.slices_SortFunc Try.sortK 4 Try.isAgg66 Try.sizeOf66 encK.enc encK.len (fun x v hv => encK.one x v hv) cfK swoK 33 #[] g 0 c l.toArray w eg (cmpLaysK g 0 l.toArray.size w) (holds_of hg ht) hg.lt (by simp; omega)
    have hs : l.toArray.size = l.length := List.size_toArray
    change Calls Try.prog 39 _ _ _ at hcon
    rw [hs] at hcon
    refine hcon.mono fun e w' ⟨he, d', n, os, hp, hsd, hw⟩ => ?_
    subst hw
    rw [← hs] at hp
    obtain ⟨hd, hperm⟩ := perm_of hp
    obtain ⟨ho, hgr⟩ := sortWorld_own (E := encK) (n := n) (os := os) hb hg hd hnc hm hcs
    refine ⟨he, d'.toList, hperm, ?_, ho, hgr⟩
    rw [← hd] at hsd
    have := sorted_of hsd
    exact this.imp fun {x y} h => by rw [← cfK_lt]; exact h
end Go.Proofs.Ytlnpmdchhmbblaa
