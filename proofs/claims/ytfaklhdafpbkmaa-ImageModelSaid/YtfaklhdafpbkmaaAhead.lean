/- image.ahead: the order of images, as the sort asks it. -/
import Derived.Test.YtfaklhdafpbkmaaDead
import Derived.Test.YtfaklhdafpbkmaaDropI
import Derived.StillTailTactics
namespace Go.Proofs.Ytfaklhdafpbkmaa
open Go.RowKit

def cfI (x y : Im) : Int := orOf [Lib.compareInt x.last y.last, Lib.compareInt y.size x.size, Lib.compareBytes x.name.data.toList y.name.data.toList]
theorem cfI_lt (x y : Im) : ltOf cfI x y = imlt x y := by
  unfold ltOf cfI imlt
  rw [blt_eq]
  obtain ⟨h1, h2⟩ := cmpB_lt x.name.data.toList y.name.data.toList
  rw [show decide (x.name.data.toList < y.name.data.toList) = decide (Lib.compareBytes x.name.data.toList y.name.data.toList < 0) from decide_eq_decide.2 h1.symm]
  generalize Lib.compareBytes x.name.data.toList y.name.data.toList = z at *
  clear h1 h2
  unfold Lib.compareInt orOf orOf orOf orOf
  by_cases hl : x.last < y.last
  · have : ¬ x.last = y.last := by omega
    simp [hl, this]
  · by_cases hg : y.last < x.last
    · have : ¬ x.last = y.last := by omega
      simp [hl, hg, this]
    · have he : x.last = y.last := by omega
      by_cases sl : y.size < x.size
      · have : ¬ x.size = y.size := by omega
        simp [he, sl, this]
      · by_cases sg : x.size < y.size
        · have : ¬ x.size = y.size := by omega
          simp [he, sl, sg, this]
        · have hs : x.size = y.size := by omega
          by_cases hz : z = 0
          · simp [he, hs, hz]
          · simp [he, hs, hz]
theorem swoI : Sort.SWO (ltOf cfI) where
  irrefl x := by rw [cfI_lt]; exact imlt_irrefl x
  trans x y z h1 h2 := by rw [cfI_lt] at *; exact imlt_trans h1 h2
  ntrans x y z h1 h2 := by
    rw [cfI_lt] at *
    cases h : imlt x z
    · rfl
    · exfalso
      cases hyx : imlt y x
      · have e := imlt_total h1 hyx
        subst e
        rw [h] at h2; cases h2
      · have := imlt_trans hyx h
        rw [this] at h2; cases h2

set_option maxRecDepth 100000 in
set_option maxHeartbeats 2000000 in
theorem closureI (x y : Im) (W : World) : Calls Try.prog 63 #[.agg #[.string x.name, .int .i64 x.size, .int .i64 x.last], .agg #[.string y.name, .int .i64 y.size, .int .i64 y.last]] W fun e w' => e = .returned (.int .i64 (cfI x y)) ∧ ∃ q os', w' = Sort.grow (W.drewN q) os' := by
  have h1 := fun W' => compare_any x.last y.last W'
  have h2 := fun W' => strcmp_any x.name y.name W'
  have h3 := fun W' => compare_any y.size x.size W'
  unfold cfI
  generalize Lib.compareInt x.last y.last = r1 at *
  generalize Lib.compareInt y.size x.size = r3 at *
  generalize Lib.compareBytes x.name.data.toList y.name.data.toList = r2 at *
  have H1 := Lib.hid h1
  have H2 := Lib.hid h2
  have H3 := Lib.hid h3
  clear h1 h2 h3
  go_enter Try.func63, Try.ntmps63
  go_wp2_with fail
  refine wp_region_still_tail 15 (by kernel_rfl) (by kernel_rfl) ?_
  simp only [List.take_succ_cons, List.take_zero, List.drop_succ_cons, List.drop_zero]
  have hx := ((Blk.new W 46 #[.string x.name, .int .i64 x.size, .int .i64 x.last]).alloc (.cells #[.string y.name, .int .i64 y.size, .int .i64 y.last] 46)).drew
  have hy := (Blk.new (W.alloc (.cells #[.string x.name, .int .i64 x.size, .int .i64 x.last] 46)) 46 #[.string y.name, .int .i64 y.size, .int .i64 y.last]).drew
  have hz : (W.alloc (.cells #[.string x.name, .int .i64 x.size, .int .i64 x.last] 46)).heap.size = W.heap.size + 1 := by simp
  rw [hz] at hy
  have hg : ((W.alloc (.cells #[.string x.name, .int .i64 x.size, .int .i64 x.last] 46)).alloc (.cells #[.string y.name, .int .i64 y.size, .int .i64 y.last] 46)).drew = Sort.grow (W.drewN 1) (#[Obj.cells #[.string x.name, .int .i64 x.size, .int .i64 x.last] 46] ++ #[Obj.cells #[.string y.name, .int .i64 y.size, .int .i64 y.last] 46]) := by rw [Go.Sort.alloc_eq_grow, Go.Sort.alloc_eq_grow, Go.Sort.grow_grow]; rfl
  clear hz
  obtain ⟨Wd, hWd⟩ : ∃ Wd : World, Wd = ((W.alloc (.cells #[.string x.name, .int .i64 x.size, .int .i64 x.last] 46)).alloc (.cells #[.string y.name, .int .i64 y.size, .int .i64 y.last] 46)).drew := ⟨_, rfl⟩
  have e0 : ((W.alloc (.cells #[.string x.name, .int .i64 x.size, .int .i64 x.last] 46)).alloc (.cells #[.string y.name, .int .i64 y.size, .int .i64 y.last] 46)).drew = Wd := hWd.symm
  rw [← hWd] at hx hy hg
  unfold World.drew at e0
  rw [e0]
  have cx := hx.cell
  have cy := hy.cell
  have HG := Lib.hid hg
  clear hx hy hg hWd e0
  repeat still_step
  still_call (H1.out _)
  repeat still_step
  still_call (H3.out _)
  repeat still_step
  still_call (H2.out _)
  refine wpStill_nil ?_
  have hor := or_any [r1, r3, r2] _ 3 _ (Rds.made Wd encZ [r1, r3, r2] 3 #[.int .i64 r1, .int .i64 r3, .int .i64 r2] (0, 0) rfl) (by simp)
  change Calls _ _ #[.slice _ 3 3] _ _ at hor
  have HOR := Lib.hid hor
  clear hor
  go_wp2_with fail
  refine HOR.out.mono ?_; rintro e w' ⟨rfl, rfl⟩
  go_wp2_with fail
  go_ret
  exact ⟨rfl, 1, _, by rw [Go.Sort.alloc_eq_grow, HG.out, Go.Sort.grow_grow]⟩
theorem cmpLaysI (blk off size : Nat) (w : World) : CmpLays Try.prog 63 #[] encI.enc 3 cfI blk off size w := by
  intro m os dk _ x y
  have h := closureI x y (sortWorldK encI.enc 3 w blk off m dk os)
  have e : (#[Value.agg (encI.enc x).toArray, Value.agg (encI.enc y).toArray] ++ #[] : Array Value) = #[.agg #[.string x.name, .int .i64 x.size, .int .i64 x.last], .agg #[.string y.name, .int .i64 y.size, .int .i64 y.last]] := rfl
  rw [e]
  exact h
end Go.Proofs.Ytfaklhdafpbkmaa
