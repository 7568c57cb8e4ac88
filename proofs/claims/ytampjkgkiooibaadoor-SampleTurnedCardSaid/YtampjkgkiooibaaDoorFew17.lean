/- bilgeref17.Few: does a sample tell of few pods, with short names? -/
import Derived.Test.YtampjkgkiooibaaDoorNumPlain
import Derived.Test.YtampjkgkiooibaaDoorFewR
namespace Go.Proofs.YtampjkgkiooibaaDoor
open Go.RowKit

def shortG (g : Ug) : Bool := decide (g.id.size ≤ 60)
def fewR (l : List Ug) : Bool := (l.take 200).all shortG && decide (l.length ≤ 140)
theorem fewR_no (l : List Ug) (k : Nat) (hk : k < l.length) (h2 : k < 200) (h : shortG l[k] = false) : fewR l = false := by
  unfold fewR
  have : (l.take 200).all shortG = false := by
    rw [List.all_eq_false]
    exact ⟨l[k], List.mem_take_iff_getElem.2 ⟨k, by omega, rfl⟩, by simp [h]⟩
  rw [this]; rfl
theorem fewR_yes (l : List Ug) (k : Nat) (hk : k ≤ l.length) (h2 : k ≤ 200) (he : ¬ (k < l.length ∧ k < 200)) (h : (l.take k).all shortG = true) : fewR l = decide ((l.length : Int) ≤ 140) := by
  unfold fewR
  have e : l.take 200 = l.take k := by
    rcases Nat.lt_or_ge k 200 with h3 | h3
    · obtain rfl : k = l.length := by omega
      rw [List.take_of_length_le (by omega), List.take_of_length_le (Nat.le_refl _)]
    · obtain rfl : k = 200 := by omega
      rfl
  rw [e, h, Bool.true_and]
  congr 1
  apply propext
  omega
theorem all_snocG (f : Ug → Bool) (l : List Ug) (k : Nat) (hk : k < l.length) (h : (l.take k).all f = true) (h2 : f l[k] = true) : (l.take (k + 1)).all f = true := by
  rw [List.take_succ_eq_append_getElem hk, List.all_append, h, List.all_cons, h2]; rfl

/-- a raw sample in its box -/
structure RQ (r : Rw) (w W : World) : Prop where
  rds0 : Rds w encG r.A r.uses
  box : Blk W w.heap.size 26 r.cells
  bel : Below w.heap.size w W
theorem RQ.rds {r : Rw} {w W : World} (h : RQ r w W) : Rds W encG r.A r.uses := h.rds0.below h.bel
theorem RQ.below {r : Rw} {w W W' : World} (h : RQ r w W) (hb : Below W.heap.size W W') : RQ r w W' := ⟨h.rds0, h.box.belowAll hb, h.bel.trans (hb.mono h.bel.size)⟩
theorem RQ.quiet {r : Rw} {w W : World} (h : RQ r w W) (n : Nat) : RQ r w (W.drewN n) := ⟨h.rds0, h.box.drewN n, h.bel.trans ⟨rfl, rfl, rfl, Nat.le_refl _, fun _ _ => rfl⟩⟩
theorem RQ.new (r : Rw) (w : World) (hr : Rds w encG r.A r.uses) : RQ r w (w.alloc (.cells r.cells 26)) := ⟨hr, Blk.new _ _ _, (Below.refl _ _).alloc (Nat.le_refl _) _⟩
set_option maxHeartbeats 2000000 in
theorem few17V_any {r : Rw} {v : Bool} (hv : fewR r.uses = v) (w : World) (hr : Rds w encG r.A r.uses) (hm : r.uses.length ≤ 9223372036854775807) (hi : ∀ g ∈ r.uses, g.id.size ≤ 9223372036854775807) :
    Calls Tryd.prog 11 #[.agg r.cells] w fun e w' => e = .returned (.bool v) ∧ Below w.heap.size w w' := by
  have HQ := Lib.hid (RQ.new r w hr)
  have HV := Lib.hid hv
  have HI := Lib.hid hi
  clear hr hv hi
  go_enter Tryd.func11, Tryd.ntmps11
  go_wp2_with fail
  go_loopw [3] (fun i wr => ∃ k : Nat, k ≤ r.uses.length ∧ k ≤ 200 ∧ i = .int .i64 k ∧ (r.uses.take k).all shortG = true ∧ RQ r w wr) (fun i _ => r.uses.length - (intOf i).toNat)
  case atStart => exact ⟨0, by omega, by omega, rfl, rfl, HQ.out⟩
  case round =>
    clear HQ
    obtain ⟨k, hk, hk2, rfl, hs, hQ⟩ := hrel
    have HS := Lib.hid hs
    clear hs
    have HQ := Lib.hid hQ
    clear hQ
    have cb := HQ.out.box.cell
    by_cases hlt : k < r.uses.length ∧ k < 200
    · obtain ⟨h1, h2⟩ := hlt
      obtain ⟨b, off, hA, hb, g0, g1, g2, g3⟩ := HQ.out.rds.ug h1
      have dk : decide ((k : Int) < (r.uses.length : Int)) = true := decide_eq_true (by omega)
      have dk2 : decide ((k : Int) < 200) = true := decide_eq_true (by omega)
      have dk3 : (k : Int) < (r.uses.length : Int) := by omega
      have hgi := HI.out _ (List.getElem_mem h1)
      have HNo := Lib.hid (fewR_no r.uses k h1 h2)
      have HYes := Lib.hid (all_snocG shortG r.uses k h1 HS.out)
      generalize r.uses[k] = g at *
      cases hs : shortG g
      · have HN := Lib.hid (show false = v by rw [← HV.out]; exact (HNo.out hs).symm)
        have d1 : decide ((60 : Int) < (g.id.size : Int)) = true := decide_eq_true (by unfold shortG at hs; simp at hs; omega)
        clear hs HNo HYes
        go_wp2_with fail
        go_ret
        exact ⟨ret_bool HN.out, HQ.out.bel⟩
      · have HN := Lib.hid (HYes.out hs)
        have d1 : decide ((60 : Int) < (g.id.size : Int)) = false := decide_eq_false (by unfold shortG at hs; simp at hs; omega)
        clear hs HNo HYes
        go_wp2_with fail
        go_roundw
        case rel => exact ⟨k + 1, by omega, by omega, by go_num, HN.out, HQ.out⟩
        case measure => simp [intOf]; omega
    · have HF := Lib.hid (show decide ((r.uses.length : Int) ≤ 140) = v by rw [← HV.out]; exact (fewR_yes r.uses k hk hk2 hlt HS.out).symm)
      by_cases h1 : k < r.uses.length
      · have dk : decide ((k : Int) < (r.uses.length : Int)) = true := decide_eq_true (by omega)
        have dk2 : decide ((k : Int) < 200) = false := decide_eq_false (by omega)
        clear hlt
        go_wp2_with fail
        go_ret
        exact ⟨ret_bool HF.out, HQ.out.bel⟩
      · have dk : decide ((k : Int) < (r.uses.length : Int)) = false := decide_eq_false (by omega)
        clear hlt
        go_wp2_with fail
        go_ret
        exact ⟨ret_bool HF.out, HQ.out.bel⟩
end Go.Proofs.YtampjkgkiooibaaDoor
