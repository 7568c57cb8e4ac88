/- victim.May, bilgeref21.May; sat.Full, victim.Fits, bilgeref21.Fits. -/
import Derived.Test.YtlhmhcidknadmaaDoorSumsV
import Derived.BigQuiet
import Derived.Deep.QuietTactic
namespace Go.Proofs.YtlhmhcidknadmaaDoor
open Go.RowKit

/-- may v go for p? -/
def mayV (p v : Pd) : Bool := p.crit && (!v.crit && decide (v.prio < p.prio))
theorem vmay_any (p v : Pd) (w : World) :
    Calls Tryd.prog 38 #[.agg p.cells, .agg v.cells] w fun e w' => e = .returned (.bool (mayV p v)) ∧ Below w.heap.size w w' := by
  have HB := Lib.hid (((Below.refl w.heap.size w).alloc (Nat.le_refl _) (.cells p.cells 29)).alloc (by simp) (.cells v.cells 29))
  have HM : Hid (mayV p v = (p.crit && (!v.crit && decide (v.prio < p.prio)))) := rfl
  cases hc : p.crit <;> cases hd : v.crit <;> cases hl : decide (v.prio < p.prio)
  all_goals
    have HV := Lib.hid HM.out
    rw [hc, hd, hl] at HV
    clear HM
    go_enter Tryd.func38, Tryd.ntmps38
    go_wp2_with fail
    go_ret
    exact ⟨ret_bool HV.out.symm, HB.out⟩
theorem refVmay_any (p v : Pd) (w : World) :
    Calls Tryd.prog 17 #[.agg p.cells, .agg v.cells] w fun e w' => e = .returned (.bool (mayV p v)) ∧ Below w.heap.size w w' := by
  have HB := Lib.hid (((Below.refl w.heap.size w).alloc (Nat.le_refl _) (.cells p.cells 29)).alloc (by simp) (.cells v.cells 29))
  have HM : Hid (mayV p v = (p.crit && (!v.crit && decide (v.prio < p.prio)))) := rfl
  cases hc : p.crit <;> cases hd : v.crit <;> cases hl : decide (v.prio < p.prio)
  all_goals
    have HV := Lib.hid HM.out
    rw [hc, hd, hl] at HV
    clear HM
    go_enter Tryd.func17, Tryd.ntmps17
    go_wp2_with fail
    go_ret
    exact ⟨ret_bool HV.out.symm, HB.out⟩
theorem vmayV {p v : Pd} {b : Bool} (hb : mayV p v = b) (w : World) : Calls Tryd.prog 38 #[.agg p.cells, .agg v.cells] w fun e w' => e = .returned (.bool b) ∧ Below w.heap.size w w' := by subst hb; exact vmay_any p v w
theorem refVmayV {p v : Pd} {b : Bool} (hb : mayV p v = b) (w : World) : Calls Tryd.prog 17 #[.agg p.cells, .agg v.cells] w fun e w' => e = .returned (.bool b) ∧ Below w.heap.size w w' := by subst hb; exact refVmay_any p v w
theorem full_any {n : Int} {b : Bool} (hb : (n == most) = b) (w : World) : Calls Tryd.prog 45 #[.int .i64 n] w fun e w' => e = .returned (.bool b) ∧ w = w' := by
  have HB := Lib.hid hb
  clear hb
  go_enter Tryd.func45, Tryd.ntmps45
  go_wp2_with fail
  go_ret
  exact ⟨ret_bool HB.out, rfl⟩
/-- does a sum fit in a room? -/
def fit1 (r n : Int) : Bool := !(n == most) && !decide (r < n)
def S3.fits (room s : S3) : Bool := fit1 room.a s.a && (fit1 room.b s.b && fit1 room.c s.c)
def fitsB (room : S3) (l : List Pd) : Bool := room.fits (sumsOf l)
/-- the first j fit -/
def S3.fitTo (room s : S3) : Nat → Prop
  | 0 => True
  | 1 => fit1 room.a s.a = true
  | 2 => fit1 room.a s.a = true ∧ fit1 room.b s.b = true
  | _ => fit1 room.a s.a = true ∧ fit1 room.b s.b = true ∧ fit1 room.c s.c = true
theorem fit1_full {r n : Int} (h : (n == most) = true) : fit1 r n = false := by unfold fit1; rw [h]; rfl
theorem fit1_over {r n : Int} (h : decide (r < n) = true) : fit1 r n = false := by unfold fit1; rw [h]; simp
theorem fit1_ok {r n : Int} (h : (n == most) = false) (h2 : decide (r < n) = false) : fit1 r n = true := by unfold fit1; rw [h, h2]; rfl
theorem fits_no0 {room s : S3} (h : fit1 room.a s.a = false) : room.fits s = false := by unfold S3.fits; rw [h]; rfl
theorem fits_no1 {room s : S3} (h : fit1 room.b s.b = false) : room.fits s = false := by unfold S3.fits; rw [h]; simp
theorem fits_no2 {room s : S3} (h : fit1 room.c s.c = false) : room.fits s = false := by unfold S3.fits; rw [h]; simp
theorem fits_yes {room s : S3} (h : room.fitTo s 3) : room.fits s = true := by obtain ⟨h1, h2, h3⟩ := h; unfold S3.fits; rw [h1, h2, h3]; rfl
set_option maxHeartbeats 4000000 in
theorem vfits_any (room : S3) (l : List Pd) (A : Option Addr) (c : Nat) (w : World) (hr : Rds w encP A l) (hwf : ∀ p ∈ l, p.Wf) (hn : l.length ≤ 140737488355328) :
    Calls Tryd.prog 34 #[.agg #[.int .i64 room.a, .int .i64 room.b, .int .i64 room.c], .slice A l.length c] w fun e w' => e = .returned (.bool (fitsB room l)) ∧ Below w.heap.size w w' := by
  have hB0 : Below w.heap.size w (w.alloc (.cells #[.int .i64 room.a, .int .i64 room.b, .int .i64 room.c] 22)) := (Below.refl _ _).alloc (Nat.le_refl _) _
  have HP := Lib.hid (And.intro (Blk.new w 22 #[.int .i64 room.a, .int .i64 room.b, .int .i64 room.c]) (And.intro (hr.below hB0) hB0))
  have HW := Lib.hid hwf
  clear hr hwf hB0
  unfold fitsB
  obtain ⟨s, hs⟩ : ∃ s, sumsOf l = s := ⟨_, rfl⟩
  have HS := Lib.hid (fun (W : World) (h : Rds W encP A l) => hs ▸ sums_any l A c W h HW.out hn)
  rw [hs]
  clear hs
  go_enter Tryd.func34, Tryd.ntmps34
  go_wp2_with fail
  refine (HS.out _ HP.out.2.1).mono ?_; rintro e w1 ⟨rfl, hb⟩
  have HP1 := Lib.hid (And.intro (HP.out.1.belowAll hb) (HP.out.2.2.trans (hb.mono HP.out.2.2.size)))
  clear hb HP HS HW
  have r0 : w1.cell? ⟨w.heap.size, 0, none⟩ = some (.int .i64 room.a) := HP1.out.1.cell 0
  have r1 : w1.cell? ⟨w.heap.size, 1, none⟩ = some (.int .i64 room.b) := HP1.out.1.cell 1
  have r2 : w1.cell? ⟨w.heap.size, 2, none⟩ = some (.int .i64 room.c) := HP1.out.1.cell 2
  have i0 := fun (w : World) => idx3_0 (.int .i64 s.a) (.int .i64 s.b) (.int .i64 s.c) w
  have i1 := fun (w : World) => idx3_1 (.int .i64 s.a) (.int .i64 s.b) (.int .i64 s.c) w
  have i2 := fun (w : World) => idx3_2 (.int .i64 s.a) (.int .i64 s.b) (.int .i64 s.c) w
  go_wp2_with fail
  go_loop [9] (fun ii => ∃ j : Nat, j ≤ 3 ∧ ii = .int .i64 j ∧ room.fitTo s j) (fun ii => 3 - (intOf ii).toNat)
  case atStart => exact ⟨0, by omega, rfl, trivial⟩
  case round =>
    obtain ⟨j, hj, rfl, hto⟩ := hrel
    have HT := Lib.hid hto
    clear hto
    obtain rfl | rfl | rfl | rfl : j = 0 ∨ j = 1 ∨ j = 2 ∨ j = 3 := by omega
    · cases hf : (s.a == most)
      · cases hr : decide (room.a < s.a)
        · have HN : Hid (room.fitTo s 1) := fit1_ok hf hr
          have HF := Lib.hid hf
          clear hf
          go_wp2_with fail
          refine (full_any HF.out _).mono ?_; rintro e w2 ⟨rfl, rfl⟩
          go_wp2_with fail
          go_round
          case rel => exact ⟨1, by omega, rfl, HN.out⟩
          case measure => simp [intOf]
        · have HN := Lib.hid (fits_no0 (fit1_over hr) : room.fits s = false)
          have HF := Lib.hid hf
          clear hf
          go_wp2_with fail
          refine (full_any HF.out _).mono ?_; rintro e w2 ⟨rfl, rfl⟩
          go_wp2_with fail
          go_ret
          exact ⟨ret_bool HN.out.symm, HP1.out.2⟩
      · have HN := Lib.hid (fits_no0 (fit1_full (r := room.a) hf) : room.fits s = false)
        have HF := Lib.hid hf
        clear hf
        go_wp2_with fail
        refine (full_any HF.out _).mono ?_; rintro e w2 ⟨rfl, rfl⟩
        go_wp2_with fail
        go_ret
        exact ⟨ret_bool HN.out.symm, HP1.out.2⟩
    · cases hf : (s.b == most)
      · cases hr : decide (room.b < s.b)
        · have HN : Hid (room.fitTo s 2) := ⟨HT.out, fit1_ok hf hr⟩
          have HF := Lib.hid hf
          clear hf
          go_wp2_with fail
          refine (full_any HF.out _).mono ?_; rintro e w2 ⟨rfl, rfl⟩
          go_wp2_with fail
          go_round
          case rel => exact ⟨2, by omega, rfl, HN.out⟩
          case measure => simp [intOf]
        · have HN := Lib.hid (fits_no1 (fit1_over hr) : room.fits s = false)
          have HF := Lib.hid hf
          clear hf
          go_wp2_with fail
          refine (full_any HF.out _).mono ?_; rintro e w2 ⟨rfl, rfl⟩
          go_wp2_with fail
          go_ret
          exact ⟨ret_bool HN.out.symm, HP1.out.2⟩
      · have HN := Lib.hid (fits_no1 (fit1_full (r := room.b) hf) : room.fits s = false)
        have HF := Lib.hid hf
        clear hf
        go_wp2_with fail
        refine (full_any HF.out _).mono ?_; rintro e w2 ⟨rfl, rfl⟩
        go_wp2_with fail
        go_ret
        exact ⟨ret_bool HN.out.symm, HP1.out.2⟩
    · cases hf : (s.c == most)
      · cases hr : decide (room.c < s.c)
        · have HN : Hid (room.fitTo s 3) := ⟨HT.out.1, HT.out.2, fit1_ok hf hr⟩
          have HF := Lib.hid hf
          clear hf
          go_wp2_with fail
          refine (full_any HF.out _).mono ?_; rintro e w2 ⟨rfl, rfl⟩
          go_wp2_with fail
          go_round
          case rel => exact ⟨3, by omega, rfl, HN.out⟩
          case measure => simp [intOf]
        · have HN := Lib.hid (fits_no2 (fit1_over hr) : room.fits s = false)
          have HF := Lib.hid hf
          clear hf
          go_wp2_with fail
          refine (full_any HF.out _).mono ?_; rintro e w2 ⟨rfl, rfl⟩
          go_wp2_with fail
          go_ret
          exact ⟨ret_bool HN.out.symm, HP1.out.2⟩
      · have HN := Lib.hid (fits_no2 (fit1_full (r := room.c) hf) : room.fits s = false)
        have HF := Lib.hid hf
        clear hf
        go_wp2_with fail
        refine (full_any HF.out _).mono ?_; rintro e w2 ⟨rfl, rfl⟩
        go_wp2_with fail
        go_ret
        exact ⟨ret_bool HN.out.symm, HP1.out.2⟩
    · have HN := Lib.hid (fits_yes HT.out)
      go_wp2_with fail
      go_ret
      exact ⟨ret_bool HN.out.symm, HP1.out.2⟩
end Go.Proofs.YtlhmhcidknadmaaDoor
