/- The order in which pods are asked; slices.SortFunc at pods, on a row of one's own. -/
import Derived.Test.YtlhmhcidknadmaaDoorVFits
import Derived.Test.YtlhmhcidknadmaaDoorSortAnyR
import Derived.Test.YtlhmhcidknadmaaDoorShelf
import Derived.Sort.Walk0
import Derived.Shelf.SlSortCmp.InsertionK
import Derived.Shelf.SlSortCmp.NoneTotal
namespace Go.Proofs.YtlhmhcidknadmaaDoor
open Go.RowKit

/-- is x asked ahead of y? -/
def vlt (x y : Pd) : Bool := if x.prio = y.prio then blt x.id y.id else decide (y.prio < x.prio)
theorem vlt_iff (x y : Pd) : vlt x y = true ↔ y.prio < x.prio ∨ (x.prio = y.prio ∧ blt x.id y.id = true) := by
  unfold vlt
  split
  · rename_i h
    constructor
    · intro h2; exact .inr ⟨h, h2⟩
    · rintro (h2 | ⟨_, h2⟩)
      · omega
      · exact h2
  · rw [decide_eq_true_eq]
    constructor
    · intro h2; exact .inl h2
    · rintro (h2 | ⟨h2, _⟩)
      · exact h2
      · omega
theorem vlt_irrefl (x : Pd) : vlt x x = false := by
  cases h : vlt x x
  · rfl
  · rw [vlt_iff, blt_irrefl] at h
    rcases h with h | ⟨_, h⟩
    · omega
    · cases h
theorem vlt_trans {x y z : Pd} (h1 : vlt x y = true) (h2 : vlt y z = true) : vlt x z = true := by
  rw [vlt_iff] at *
  rcases h1 with h1 | ⟨a1, b1⟩ <;> rcases h2 with h2 | ⟨a2, b2⟩
  · left; omega
  · left; omega
  · left; omega
  · right; exact ⟨by omega, blt_trans b1 b2⟩
theorem vlt_asymm {x y : Pd} (h : vlt x y = true) : vlt y x = false := by
  cases h2 : vlt y x
  · rfl
  · have := vlt_trans h h2; rw [vlt_irrefl] at this; cases this
/-- neither is asked ahead of the other: of one priority and one name -/
theorem vlt_tie {x y : Pd} (h1 : vlt x y = false) (h2 : vlt y x = false) : x.prio = y.prio ∧ x.id = y.id := by
  have a : ¬ (vlt x y = true) := by rw [h1]; simp
  have b : ¬ (vlt y x = true) := by rw [h2]; simp
  rw [vlt_iff] at a b
  have e : x.prio = y.prio := by omega
  refine ⟨e, blt_total ?_ ?_⟩
  · cases h : blt x.id y.id
    · rfl
    · exact absurd (.inr ⟨e, h⟩) a
  · cases h : blt y.id x.id
    · rfl
    · exact absurd (.inr ⟨e.symm, h⟩) b
def cfV (x y : Pd) : Int := orOf [Lib.compareInt y.prio x.prio, Lib.compareBytes x.id.data.toList y.id.data.toList]
theorem cmpI_ltV (a b : Int) : (Lib.compareInt a b < 0 ↔ a < b) ∧ (Lib.compareInt a b = 0 ↔ a = b) := by
  unfold Lib.compareInt
  by_cases h : a < b
  · rw [if_pos h]; omega
  · rw [if_neg h]
    by_cases h2 : b < a
    · rw [if_pos h2]; omega
    · rw [if_neg h2]; omega
theorem cfV_lt (x y : Pd) : ltOf cfV x y = vlt x y := by
  unfold ltOf
  rw [Bool.eq_iff_iff, decide_eq_true_eq, vlt_iff]
  obtain ⟨s1, s2⟩ := cmpB_lt x.id.data.toList y.id.data.toList
  have s3 : blt x.id y.id = true ↔ Lib.compareBytes x.id.data.toList y.id.data.toList < 0 := by rw [blt_eq, decide_eq_true_eq]; exact s1.symm
  rw [s3]
  obtain ⟨a1, a2⟩ := cmpI_ltV y.prio x.prio
  unfold cfV
  clear s1 s2 s3
  generalize Lib.compareBytes x.id.data.toList y.id.data.toList = z at *
  generalize Lib.compareInt y.prio x.prio = r1 at *
  have e : orOf [r1, z] = if r1 = 0 then (if z = 0 then 0 else z) else r1 := rfl
  rw [e]
  by_cases h1 : r1 = 0
  · rw [if_pos h1]
    by_cases h4 : z = 0
    · rw [if_pos h4]; omega
    · rw [if_neg h4]; omega
  · rw [if_neg h1]; omega
theorem swoV : Sort.SWO (ltOf cfV) where
  irrefl x := by rw [cfV_lt]; exact vlt_irrefl x
  trans x y z h1 h2 := by rw [cfV_lt] at *; exact vlt_trans h1 h2
  ntrans x y z h1 h2 := by
    rw [cfV_lt] at *
    cases h : vlt x z
    · rfl
    · exfalso
      rw [vlt_iff] at h
      have a : ¬ (vlt x y = true) := by rw [h1]; simp
      have b : ¬ (vlt y z = true) := by rw [h2]; simp
      rw [vlt_iff] at a b
      rcases h with h | ⟨h, hb⟩
      · omega
      · have e1 : x.prio = y.prio := by omega
        have e2 : y.prio = z.prio := by omega
        cases hxy : blt x.id y.id
        · cases hyx : blt y.id x.id
          · have e := blt_total hxy hyx
            rw [e] at hb
            exact b (.inr ⟨e2, hb⟩)
          · exact b (.inr ⟨e2, blt_trans hyx hb⟩)
        · exact a (.inr ⟨e1, hxy⟩)
instance : Inhabited Pd := ⟨⟨⟨#[]⟩, 0, false, 0, 0, 0, 0, 0, 0, ⟨#[]⟩, 0⟩⟩
set_option maxRecDepth 100000 in
set_option maxHeartbeats 2000000 in
theorem closureV (x y : Pd) (W : World) : Calls Tryd.prog 40 #[.agg #[.string x.id, .int .i64 x.prio, .bool x.crit, .int .i64 x.q0, .int .i64 x.q1, .int .i64 x.q2, .int .i64 x.l0, .int .i64 x.l1, .int .i64 x.l2, .string x.image, .int .i64 x.size], .agg #[.string y.id, .int .i64 y.prio, .bool y.crit, .int .i64 y.q0, .int .i64 y.q1, .int .i64 y.q2, .int .i64 y.l0, .int .i64 y.l1, .int .i64 y.l2, .string y.image, .int .i64 y.size]] W fun e w' => e = .returned (.int .i64 (cfV x y)) ∧ ∃ q os', w' = Sort.grow (W.drewN q) os' := by
  have h1 := fun W' => compare_any y.prio x.prio W'
  have h2 := fun W' => strcmp_any x.id y.id W'
  unfold cfV
  generalize Lib.compareInt y.prio x.prio = r1 at *
  generalize Lib.compareBytes x.id.data.toList y.id.data.toList = r2 at *
  have H1 := Lib.hid h1
  have H2 := Lib.hid h2
  clear h1 h2
  go_enter Tryd.func40, Tryd.ntmps40
  go_wp2_with fail
  refine wp_region_still_tail 10 (by kernel_rfl) (by kernel_rfl) ?_
  simp only [List.take_succ_cons, List.take_zero, List.drop_succ_cons, List.drop_zero]
  have hx := ((Blk.new W 29 #[.string x.id, .int .i64 x.prio, .bool x.crit, .int .i64 x.q0, .int .i64 x.q1, .int .i64 x.q2, .int .i64 x.l0, .int .i64 x.l1, .int .i64 x.l2, .string x.image, .int .i64 x.size]).alloc (.cells #[.string y.id, .int .i64 y.prio, .bool y.crit, .int .i64 y.q0, .int .i64 y.q1, .int .i64 y.q2, .int .i64 y.l0, .int .i64 y.l1, .int .i64 y.l2, .string y.image, .int .i64 y.size] 29)).drew
  have hy := (Blk.new (W.alloc (.cells #[.string x.id, .int .i64 x.prio, .bool x.crit, .int .i64 x.q0, .int .i64 x.q1, .int .i64 x.q2, .int .i64 x.l0, .int .i64 x.l1, .int .i64 x.l2, .string x.image, .int .i64 x.size] 29)) 29 #[.string y.id, .int .i64 y.prio, .bool y.crit, .int .i64 y.q0, .int .i64 y.q1, .int .i64 y.q2, .int .i64 y.l0, .int .i64 y.l1, .int .i64 y.l2, .string y.image, .int .i64 y.size]).drew
  have hz : (W.alloc (.cells #[.string x.id, .int .i64 x.prio, .bool x.crit, .int .i64 x.q0, .int .i64 x.q1, .int .i64 x.q2, .int .i64 x.l0, .int .i64 x.l1, .int .i64 x.l2, .string x.image, .int .i64 x.size] 29)).heap.size = W.heap.size + 1 := by simp
  rw [hz] at hy
  have hg : ((W.alloc (.cells #[.string x.id, .int .i64 x.prio, .bool x.crit, .int .i64 x.q0, .int .i64 x.q1, .int .i64 x.q2, .int .i64 x.l0, .int .i64 x.l1, .int .i64 x.l2, .string x.image, .int .i64 x.size] 29)).alloc (.cells #[.string y.id, .int .i64 y.prio, .bool y.crit, .int .i64 y.q0, .int .i64 y.q1, .int .i64 y.q2, .int .i64 y.l0, .int .i64 y.l1, .int .i64 y.l2, .string y.image, .int .i64 y.size] 29)).drew = Sort.grow (W.drewN 1) (#[Obj.cells #[.string x.id, .int .i64 x.prio, .bool x.crit, .int .i64 x.q0, .int .i64 x.q1, .int .i64 x.q2, .int .i64 x.l0, .int .i64 x.l1, .int .i64 x.l2, .string x.image, .int .i64 x.size] 29] ++ #[Obj.cells #[.string y.id, .int .i64 y.prio, .bool y.crit, .int .i64 y.q0, .int .i64 y.q1, .int .i64 y.q2, .int .i64 y.l0, .int .i64 y.l1, .int .i64 y.l2, .string y.image, .int .i64 y.size] 29]) := by rw [Go.Sort.alloc_eq_grow, Go.Sort.alloc_eq_grow, Go.Sort.grow_grow]; rfl
  clear hz
  obtain ⟨Wd, hWd⟩ : ∃ Wd : World, Wd = ((W.alloc (.cells #[.string x.id, .int .i64 x.prio, .bool x.crit, .int .i64 x.q0, .int .i64 x.q1, .int .i64 x.q2, .int .i64 x.l0, .int .i64 x.l1, .int .i64 x.l2, .string x.image, .int .i64 x.size] 29)).alloc (.cells #[.string y.id, .int .i64 y.prio, .bool y.crit, .int .i64 y.q0, .int .i64 y.q1, .int .i64 y.q2, .int .i64 y.l0, .int .i64 y.l1, .int .i64 y.l2, .string y.image, .int .i64 y.size] 29)).drew := ⟨_, rfl⟩
  have e0 : ((W.alloc (.cells #[.string x.id, .int .i64 x.prio, .bool x.crit, .int .i64 x.q0, .int .i64 x.q1, .int .i64 x.q2, .int .i64 x.l0, .int .i64 x.l1, .int .i64 x.l2, .string x.image, .int .i64 x.size] 29)).alloc (.cells #[.string y.id, .int .i64 y.prio, .bool y.crit, .int .i64 y.q0, .int .i64 y.q1, .int .i64 y.q2, .int .i64 y.l0, .int .i64 y.l1, .int .i64 y.l2, .string y.image, .int .i64 y.size] 29)).drew = Wd := hWd.symm
  rw [← hWd] at hx hy hg
  unfold World.drew at e0
  rw [e0]
  have cx := hx.cell
  have cy := hy.cell
  have HG := Lib.hid hg
  clear hx hy hg hWd e0
  repeat still_step
  still_call (H1.out _)
  repeat still_step
  still_call (H2.out _)
  refine wpStill_nil ?_
  have hor := or_any [r1, r2] _ 2 _ (Rds.made Wd encZ [r1, r2] 3 #[.int .i64 r1, .int .i64 r2] (0, 0) rfl) (by simp)
  change Calls _ _ #[.slice _ 2 2] _ _ at hor
  have HOR := Lib.hid hor
  clear hor
  go_wp2_with fail
  refine HOR.out.mono ?_; rintro e w' ⟨rfl, rfl⟩
  go_wp2_with fail
  go_ret
  exact ⟨rfl, 1, _, by rw [Go.Sort.alloc_eq_grow, HG.out, Go.Sort.grow_grow]⟩
theorem cmpLaysV (blk off size : Nat) (w : World) : CmpLays Tryd.prog 40 #[] encP.enc 11 cfV blk off size w := by
  intro m os dk _ x y
  have h := closureV x y (sortWorldK encP.enc 11 w blk off m dk os)
  have e : (#[Value.agg (encP.enc x).toArray, Value.agg (encP.enc y).toArray] ++ #[] : Array Value) = #[.agg #[.string x.id, .int .i64 x.prio, .bool x.crit, .int .i64 x.q0, .int .i64 x.q1, .int .i64 x.q2, .int .i64 x.l0, .int .i64 x.l1, .int .i64 x.l2, .string x.image, .int .i64 x.size], .agg #[.string y.id, .int .i64 y.prio, .bool y.crit, .int .i64 y.q0, .int .i64 y.q1, .int .i64 y.q2, .int .i64 y.l0, .int .i64 y.l1, .int .i64 y.l2, .string y.image, .int .i64 y.size]] := rfl
  rw [e]
  exact h
def SortsV (l : List Pd) (A : Option Addr) (c : Nat) (base : Nat) (w : World) (e : Ending) (w' : World) : Prop :=
  e = .returned (.tuple #[]) ∧ ∃ l' : List Pd, l'.Perm l ∧ (l'.Pairwise fun x y => vlt y x = false) ∧ Own w' base 29 encP (.slice A l'.length c) l' ∧ w.grownBy w' (Value.slice A l.length c).ownBlock
theorem sortV_any (l : List Pd) (A : Option Addr) (c : Nat) (w : World) (base : Nat) (hown : Own w base 29 encP (.slice A l.length c) l) (hn : l.length ≤ 100000) :
    Calls Tryd.prog 39 #[.slice A l.length c, .func (.func 40) #[] #[]] w (SortsV l A c base w) := by
  by_cases hl : l = []
  · subst hl
    exact (AnyF.slices_SortFunc_none { Tryd.sortP with } A c _ w).mono fun e w' ⟨he, hw⟩ => by
      subst hw
      exact ⟨he, [], List.Perm.refl _, List.Pairwise.nil, hown, World.grownBy.refl _ _⟩
  · obtain ⟨g, cap, cur, hv, hb, hg, hnc, hm, hcs, ht⟩ := own_open hown hl
    injection hv with e1 _ e3
    subst e1
    subst e3
    have eg : ∀ args w, (callFunc 40 args).run Tryd.prog w = .ok (.enter 40 args) w := enters_of Tryd.func40 (by kernel_rfl) rfl
    have hcon := AnyQ.slices_SortFunc Tryd.sortP 11 Tryd.isAgg29 Tryd.sizeOf29 encP.enc encP.len (fun x v hv => encP.one x v hv) cfV swoV 40 #[] g 0 c l.toArray w eg (cmpLaysV g 0 l.toArray.size w) (holds_of hg ht) hg.lt (by simp; omega)
    have hs : l.toArray.size = l.length := List.size_toArray
    change Calls Tryd.prog 39 _ _ _ at hcon
    rw [hs] at hcon
    refine hcon.mono fun e w' ⟨he, d', n, os, hp, hsd, hw⟩ => ?_
    subst hw
    rw [← hs] at hp
    obtain ⟨hd, hperm⟩ := perm_of hp
    obtain ⟨ho, hgr⟩ := sortWorld_own (E := encP) (n := n) (os := os) hb hg hd hnc hm hcs
    refine ⟨he, d'.toList, hperm, ?_, ho, hgr⟩
    rw [← hd] at hsd
    have := sorted_of hsd
    exact this.imp fun {x y} h => by rw [← cfV_lt]; exact h
end Go.Proofs.YtlhmhcidknadmaaDoor
