/- The program's Dead and Extra: sorted by the library. -/
import Derived.Test.YtfaklhdafpbkmaaSortAny
import Derived.Outline
import Derived.Deep.DeepCutAuto
namespace Go.Proofs.Ytfaklhdafpbkmaa
open Go.RowKit

theorem cmpB_lt : ∀ x y : List UInt8, (Lib.compareBytes x y < 0 ↔ x < y) ∧ (Lib.compareBytes x y = 0 ↔ x = y) := by
  intro x
  induction x with
  | nil => intro y; cases y <;> simp [Lib.compareBytes]
  | cons a x ih =>
    intro y
    cases y with
    | nil => simp [Lib.compareBytes]
    | cons b y =>
      simp only [Lib.compareBytes, List.cons_lt_cons_iff, List.cons.injEq]
      by_cases h1 : a < b
      · have h2 : a ≠ b := by rintro rfl; exact absurd h1 (UInt8.lt_irrefl _)
        simp [h1, h2]
      · by_cases h2 : b < a
        · have h3 : a ≠ b := by rintro rfl; exact absurd h2 (UInt8.lt_irrefl _)
          simp [h1, h2, h3]
        · have h3 : a = b := UInt8.le_antisymm (UInt8.not_lt.1 h2) (UInt8.not_lt.1 h1)
          subst h3
          simp [h1, ih y]
/-- the closure's answer -/
def cfC (x y : Cn) : Int := orOf [Lib.compareInt x.last y.last, Lib.compareBytes x.id.data.toList y.id.data.toList]
theorem cfC_lt (x y : Cn) : ltOf cfC x y = cnlt x y := by
  unfold ltOf cfC cnlt
  rw [blt_eq]
  obtain ⟨h1, h2⟩ := cmpB_lt x.id.data.toList y.id.data.toList
  rw [show decide (x.id.data.toList < y.id.data.toList) = decide (Lib.compareBytes x.id.data.toList y.id.data.toList < 0) from decide_eq_decide.2 h1.symm]
  generalize Lib.compareBytes x.id.data.toList y.id.data.toList = z at *
  clear h1 h2
  unfold Lib.compareInt orOf orOf orOf
  by_cases hl : x.last < y.last
  · simp [hl]
  · by_cases hg : y.last < x.last
    · have : ¬ x.last = y.last := by omega
      simp [hl, hg, this]
    · have he : x.last = y.last := by omega
      by_cases hz : z = 0
      · simp [he, hz]
      · simp [he, hz]
theorem swoC : Sort.SWO (ltOf cfC) where
  irrefl x := by rw [cfC_lt]; exact cnlt_irrefl x
  trans x y z h1 h2 := by rw [cfC_lt] at *; exact cnlt_trans h1 h2
  ntrans x y z h1 h2 := by
    rw [cfC_lt] at *
    cases h : cnlt x z
    · rfl
    · exfalso
      cases hyx : cnlt y x
      · obtain ⟨e1, e2⟩ := cnlt_total h1 hyx
        have : cnlt y z = true := by unfold cnlt at h ⊢; rw [← e1, ← e2]; exact h
        rw [this] at h2; cases h2
      · have := cnlt_trans hyx h
        rw [this] at h2; cases h2

set_option maxRecDepth 100000 in
set_option maxHeartbeats 1000000 in
/-- the closure, in whatever world: two blocks are laid, and a row of two numbers -/
theorem closureC (x y : Cn) (W : World) : Calls Try.prog 51 #[.agg #[.string x.id, .int .i64 x.state, .int .i64 x.tries, .int .i64 x.last], .agg #[.string y.id, .int .i64 y.state, .int .i64 y.tries, .int .i64 y.last]] W fun e w' => e = .returned (.int .i64 (cfC x y)) ∧ ∃ q os', w' = Sort.grow (W.drewN q) os' := by
  have h1 := fun W' => compare_any x.last y.last W'
  have h2 := fun W' => strcmp_any x.id y.id W'
  unfold cfC
  generalize Lib.compareInt x.last y.last = r1 at *
  generalize Lib.compareBytes x.id.data.toList y.id.data.toList = r2 at *
  have H1 := Lib.hid h1
  have H2 := Lib.hid h2
  clear h1 h2
  have hz : ((W.alloc (.cells #[.string x.id, .int .i64 x.state, .int .i64 x.tries, .int .i64 x.last] 35)).alloc (.cells #[.string y.id, .int .i64 y.state, .int .i64 y.tries, .int .i64 y.last] 35)).heap.size = W.heap.size + 1 + 1 := by simp
  have hrd := (Rds.made ((W.alloc (.cells #[.string x.id, .int .i64 x.state, .int .i64 x.tries, .int .i64 x.last] 35)).alloc (.cells #[.string y.id, .int .i64 y.state, .int .i64 y.tries, .int .i64 y.last] 35)) encZ [r1, r2] 3 #[.int .i64 r1, .int .i64 r2] (0, 0) rfl).drew
  rw [hz] at hrd
  have hor := or_any [r1, r2] _ 2 _ hrd (by simp)
  change Calls _ _ #[.slice _ 2 2] _ _ at hor
  have HOR := Lib.hid hor
  clear hz hrd hor
  go_enter Try.func51, Try.ntmps51
  go_wp2_with fail
  go_region_law (first
    | (go_simp; go_at_call 53; (with_reducible refine (H1.out _).mono ?_); rintro e w' ⟨rfl, rfl⟩)
    | (go_simp; go_at_call 54; (with_reducible refine (H2.out _).mono ?_); rintro e w' ⟨rfl, rfl⟩)
    | (go_simp; go_at_call 52; (with_reducible refine HOR.out.mono ?_); rintro e w' ⟨rfl, rfl⟩))
  all_goals
    go_wp2_with fail
    go_ret
    exact ⟨rfl, 1, _, by rw [Go.Sort.alloc_eq_grow, Go.Sort.alloc_eq_grow, Go.Sort.alloc_eq_grow, Go.Sort.grow_grow, Go.Sort.grow_grow]; rfl⟩

instance : Inhabited Cn := ⟨⟨⟨#[]⟩, 0, 0, 0⟩⟩
theorem cmpLaysC (blk off size : Nat) (w : World) : CmpLays Try.prog 51 #[] encC.enc 4 cfC blk off size w := by
  intro m os dk _ x y
  have h := closureC x y (sortWorldK encC.enc 4 w blk off m dk os)
  have e : (#[Value.agg (encC.enc x).toArray, Value.agg (encC.enc y).toArray] ++ #[] : Array Value) = #[.agg #[.string x.id, .int .i64 x.state, .int .i64 x.tries, .int .i64 x.last], .agg #[.string y.id, .int .i64 y.state, .int .i64 y.tries, .int .i64 y.last]] := rfl
  rw [e]
  exact h
end Go.Proofs.Ytfaklhdafpbkmaa
