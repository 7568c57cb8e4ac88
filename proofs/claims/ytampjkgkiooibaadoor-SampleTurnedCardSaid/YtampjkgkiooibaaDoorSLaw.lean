/- What the laws of sample lean on: a Take's answer as one record. -/
import Derived.Test.YtampjkgkiooibaaDoorSAwake
import Derived.Test.YtampjkgkiooibaaDoorSSame
namespace Go.Proofs.YtampjkgkiooibaaDoor
open Go.RowKit

/-- an answer: a sample and an error -/
structure Tk where
  t : Int
  x0 : Int
  x1 : Int
  x2 : Int
  L : List Us
  k : Int
def tkOf (t V0 V1 V2 : Int) (L : List Us) : Option Int → Tk
  | none => ⟨t, V0, V1, V2, L, 0⟩
  | some k => ⟨0, 0, 0, 0, [], k⟩
def GivesT (r : Tk) (w : World) (e : Ending) (w' : World) : Prop :=
  ∃ A c, e = .returned (.tuple #[.agg #[.int .i64 r.t, .int .i64 r.x0, .int .i64 r.x1, .int .i64 r.x2, .slice A r.L.length c], .int .i64 r.k]) ∧ Own w' w.heap.size 51 encU (.slice A r.L.length c) r.L ∧ Below w.heap.size w w'
theorem TakeP.gives {t V0 V1 V2 : Int} {L : List Us} {w w' : World} {d : Option Int} {e : Ending} (h : TakeP t V0 V1 V2 L w d e w') : GivesT (tkOf t V0 V1 V2 L d) w e w' := by
  cases d with
  | none => exact h
  | some k => exact ⟨none, 0, h.1, Own.nil_ _ _ _ _, h.2⟩
theorem SReadP.gives {t V0 V1 V2 : Int} {L : List Us} {w w' : World} {v : Bool} {e : Ending} (h : SReadP t V0 V1 V2 L w v e w') : GivesT (tkOf t V0 V1 V2 L (if v = true then none else some 1)) w e w' := by
  cases v with
  | true => exact h
  | false => exact ⟨none, 0, h.1, Own.nil_ _ _ _ _, h.2⟩
theorem few_len {l : List Ug} (h : fewR l = true) : l.length ≤ 140 := by
  unfold fewR at h
  simp only [Bool.and_eq_true, decide_eq_true_eq] at h
  exact h.2
theorem tkOf_len {t V0 V1 V2 : Int} {l : List Ug} (d : Option Int) (h : l.length ≤ 140) : (tkOf t V0 V1 V2 (readUses l) d).L.length ≤ 140 := by
  cases d with
  | none => show (readUses l).length ≤ 140; rw [readUses_len]; exact h
  | some k => exact Nat.zero_le _
theorem exRight (r : Rw) : ∃ v : Bool, v = true ↔ RightR r := by classical exact ⟨decide (RightR r), by simp⟩
theorem takeG {r : Rw} {v : Bool} {q : Tk} {last round most : Int} (w : World) (hv : v = true ↔ RightR r) (hr : r.Wf w) (hl : -1 ≤ last) (hr0 : 0 ≤ round) (hr1 : round ≤ 1099511627776) (hm : 1 ≤ most) (hmm : most ≤ 9223372036854775807) (hq : tkOf r.time (readN r.v0) (readN r.v1) (readN r.v2) (readUses r.uses) (takeD v (staleB r.time last round most)) = q) :
    Calls Tryd.prog 19 #[.agg r.cells, .int .i64 last, .int .i64 round, .int .i64 most] w (GivesT q w) := by
  subst hq
  exact (take_any w hv hr rfl rfl rfl hl hr0 hr1 hm hmm).mono fun e w' h => h.gives
theorem refTakeG {r : Rw} {v : Bool} {q : Tk} {last round most : Int} (w : World) (hv : v = true ↔ RightR r) (hr : r.Wf w) (hl : -1 ≤ last) (hr0 : 0 ≤ round) (hr1 : round ≤ 1099511627776) (hm : 1 ≤ most) (hmm : most ≤ 9223372036854775807) (hq : tkOf r.time (readN r.v0) (readN r.v1) (readN r.v2) (readUses r.uses) (takeD v (staleB r.time last round most)) = q) :
    Calls Tryd.prog 20 #[.agg r.cells, .int .i64 last, .int .i64 round, .int .i64 most] w (GivesT q w) := by
  subst hq
  exact (refTake_any w hv hr rfl rfl rfl hl hr0 hr1 hm hmm).mono fun e w' h => h.gives
/-- a box behind all that was there -/
theorem below_fresh {W W' : World} {o : Obj} (hg : (W.alloc o).grownBy W' (some W.heap.size)) : Below W.heap.size W W' := ((Below.refl _ W).alloc (Nat.le_refl _) o).grown hg (by simp) (by intro k hk; cases hk; exact Nat.le_refl _)
end Go.Proofs.YtampjkgkiooibaaDoor
