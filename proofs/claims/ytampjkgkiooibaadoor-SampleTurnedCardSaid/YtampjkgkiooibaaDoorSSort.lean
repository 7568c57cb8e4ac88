/- slices.SortFunc at api.Use by name, as sample.Read calls it. -/
import Derived.Test.YtampjkgkiooibaaDoorUseAt
import Derived.Test.YtampjkgkiooibaaDoorSortAnyR
import Derived.Test.YtampjkgkiooibaaDoorShelf
import Derived.Sort.Walk0
import Derived.Shelf.SlSortCmp.InsertionK
import Derived.Shelf.SlSortCmp.NoneTotal
namespace Go.Proofs.YtampjkgkiooibaaDoor
open Go.RowKit
open Go.Sort

def cfU (x y : Us) : Int := Lib.compareBytes x.id.data.toList y.id.data.toList
theorem cfU_lt (x y : Us) : ltOf cfU x y = blt x.id y.id := by
  unfold ltOf
  rw [Bool.eq_iff_iff, decide_eq_true_eq]
  obtain ⟨s1, s2⟩ := cmpB_lt x.id.data.toList y.id.data.toList
  rw [blt_eq, decide_eq_true_eq]; exact s1
theorem swoU : Sort.SWO (ltOf cfU) where
  irrefl x := by rw [cfU_lt]; exact blt_irrefl _
  trans x y z h1 h2 := by rw [cfU_lt] at *; exact blt_trans h1 h2
  ntrans x y z h1 h2 := by
    rw [cfU_lt] at *
    cases h : blt x.id z.id
    · rfl
    · exfalso
      cases hyx : blt y.id x.id
      · have e := blt_total h1 hyx
        rw [e, h2] at h
        cases h
      · rw [blt_trans hyx h] at h2; cases h2
instance : Inhabited Us := ⟨⟨⟨#[]⟩, 0, 0, 0⟩⟩
set_option maxHeartbeats 2000000 in
theorem closureU (x y : Us) (W : World) : Calls Tryd.prog 31 #[.agg #[.string x.id, .int .i64 x.a0, .int .i64 x.a1, .int .i64 x.a2], .agg #[.string y.id, .int .i64 y.a0, .int .i64 y.a1, .int .i64 y.a2]] W fun e w' => e = .returned (.int .i64 (cfU x y)) ∧ ∃ q os', w' = Sort.grow (W.drewN q) os' := by
  have h2 := fun W' => strcmp_any x.id y.id W'
  unfold cfU
  generalize Lib.compareBytes x.id.data.toList y.id.data.toList = r2 at *
  have H2 := Lib.hid h2
  clear h2
  go_enter Tryd.func31, Tryd.ntmps31
  go_wp2_with fail
  refine (H2.out _).mono ?_; rintro e w' ⟨rfl, rfl⟩
  go_wp2_with fail
  go_ret
  exact ⟨rfl, 0, #[Obj.cells #[.string x.id, .int .i64 x.a0, .int .i64 x.a1, .int .i64 x.a2] 51] ++ #[Obj.cells #[.string y.id, .int .i64 y.a0, .int .i64 y.a1, .int .i64 y.a2] 51], by rw [Go.Sort.alloc_eq_grow, Go.Sort.alloc_eq_grow, Go.Sort.grow_grow]; rfl⟩
theorem cmpLaysU (blk off size : Nat) (w : World) : CmpLays Tryd.prog 31 #[] encU.enc 4 cfU blk off size w := by
  intro m os dk _ x y
  have h := closureU x y (sortWorldK encU.enc 4 w blk off m dk os)
  have e : (#[Value.agg (encU.enc x).toArray, Value.agg (encU.enc y).toArray] ++ #[] : Array Value) = #[.agg #[.string x.id, .int .i64 x.a0, .int .i64 x.a1, .int .i64 x.a2], .agg #[.string y.id, .int .i64 y.a0, .int .i64 y.a1, .int .i64 y.a2]] := rfl
  rw [e]
  exact h
def SortsU (l : List Us) (A : Option Addr) (c : Nat) (base : Nat) (w : World) (e : Ending) (w' : World) : Prop :=
  e = .returned (.tuple #[]) ∧ ∃ l' : List Us, l'.Perm l ∧ (l'.Pairwise fun x y => blt y.id x.id = false) ∧ Own w' base 51 encU (.slice A l'.length c) l' ∧ w.grownBy w' (Value.slice A l.length c).ownBlock
theorem sortU_any (l : List Us) (A : Option Addr) (c : Nat) (w : World) (base : Nat) (hown : Own w base 51 encU (.slice A l.length c) l) (hn : l.length ≤ 100000) :
    Calls Tryd.prog 30 #[.slice A l.length c, .func (.func 31) #[] #[]] w (SortsU l A c base w) := by
  by_cases hl : l = []
  · subst hl
    exact (AnyF.slices_SortFunc_none { Tryd.sortU with } A c _ w).mono fun e w' ⟨he, hw⟩ => by
      subst hw
      exact ⟨he, [], List.Perm.refl _, List.Pairwise.nil, hown, World.grownBy.refl _ _⟩
  · obtain ⟨g, cap, cur, hv, hb, hg, hnc, hm, hcs, ht⟩ := own_open hown hl
    injection hv with e1 _ e3
    subst e1
    subst e3
    have eg : ∀ args w, (callFunc 31 args).run Tryd.prog w = .ok (.enter 31 args) w := enters_of Tryd.func31 (by kernel_rfl) rfl
    have hcon := AnyQ.slices_SortFunc Tryd.sortU 4 Tryd.isAgg51 Tryd.sizeOf51 encU.enc encU.len (fun x v hv => encU.one x v hv) cfU swoU 31 #[] g 0 c l.toArray w eg (cmpLaysU g 0 l.toArray.size w) (holds_of hg ht) hg.lt (by simp; omega)
    have hs : l.toArray.size = l.length := List.size_toArray
    change Calls Tryd.prog 30 _ _ _ at hcon
    rw [hs] at hcon
    refine hcon.mono fun e w' ⟨he, d', n, os, hp, hsd, hw⟩ => ?_
    subst hw
    rw [← hs] at hp
    obtain ⟨hd, hperm⟩ := perm_of hp
    obtain ⟨ho, hgr⟩ := sortWorld_own (E := encU) (n := n) (os := os) hb hg hd hnc hm hcs
    refine ⟨he, d'.toList, hperm, ?_, ho, hgr⟩
    rw [← hd] at hsd
    have := sorted_of hsd
    exact this.imp fun {x y} h => by rw [← cfU_lt]; exact h
end Go.Proofs.YtampjkgkiooibaaDoor
