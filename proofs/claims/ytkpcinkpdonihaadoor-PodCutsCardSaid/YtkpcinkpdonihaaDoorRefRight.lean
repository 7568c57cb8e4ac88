/- The reference's Right gives Pd.right, too. -/
import Derived.Test.YtkpcinkpdonihaaDoorPod
namespace Go.Proofs.YtkpcinkpdonihaaDoor
open Go.RowKit

set_option maxHeartbeats 4000000 in
theorem refRight_any (p : Pd) (w : World) (hp : p.Wf) :
    Calls Tryd.prog 16 #[.agg p.cells] w fun e w' => e = .returned (.bool p.right) ∧ Below w.heap.size w w' := by
  go_enter Tryd.func16, Tryd.ntmps16
  go_wp2
  go_loopw [3] (fun t wr => ∃ (k n : Nat), k ≤ 3 ∧ t = .int .i64 k ∧ p.okTo k = true ∧ wr = (w.alloc (.cells p.cells 26)).drewN n) (fun t _ => 3 - (intOf t).toNat)
  case atStart => exact ⟨0, 0, by omega, rfl, p.okTo_zero, rfl⟩
  case round =>
    obtain ⟨k, n, hk, rfl, hok, rfl⟩ := hrel
    have HO := Lib.hid hok
    clear hok
    obtain rfl | rfl | rfl | rfl : k = 0 ∨ k = 1 ∨ k = 2 ∨ k = 3 := by omega
    · rcases bad_cases p.q0 p.l0 with ⟨hb, h | ⟨h1, h2⟩ | ⟨h1, h2, h3⟩⟩ | ⟨hb, h0, h | ⟨h1, h2⟩⟩
      · have d0 : decide (p.q0 < 0) = true := decide_eq_true h
        have HB := Lib.hid (p.bad_zero hb)
        clear hb h
        go_wp2_with fail
        go_quiet (fail)
        go_wp2
        go_ret
        exact ⟨ret_bool HB.out.symm, below_drewN (below_drewN ((Below.refl _ _).alloc (Nat.le_refl _) _) _) _⟩
      · have d0 : decide (p.q0 < 0) = false := decide_eq_false (by omega)
        have d1 : decide (p.l0 < 0) = true := decide_eq_true h2
        have HB := Lib.hid (p.bad_zero hb)
        clear hb h1 h2
        go_wp2_with fail
        go_quiet (fail)
        go_wp2
        go_ret
        exact ⟨ret_bool HB.out.symm, below_drewN (below_drewN ((Below.refl _ _).alloc (Nat.le_refl _) _) _) _⟩
      · have d0 : decide (p.q0 < 0) = false := decide_eq_false (by omega)
        have d1 : decide (p.l0 < 0) = false := decide_eq_false (by omega)
        have d2 : (p.l0 != 0) = true := by rw [bne_iff_ne]; omega
        have d3 : decide (p.l0 < p.q0) = true := decide_eq_true h3
        have HB := Lib.hid (p.bad_zero hb)
        clear hb h1 h2 h3
        go_wp2_with fail
        go_quiet (fail)
        go_wp2
        go_ret
        exact ⟨ret_bool HB.out.symm, below_drewN (below_drewN ((Below.refl _ _).alloc (Nat.le_refl _) _) _) _⟩
      · have d0 : decide (p.q0 < 0) = false := decide_eq_false (by omega)
        have d1 : decide (p.l0 < 0) = false := decide_eq_false (by omega)
        have d2 : (p.l0 != 0) = false := by rw [h]; rfl
        have HB := Lib.hid (p.okTo_one hb)
        clear hb h0 h
        go_wp2_with fail
        go_quiet (fail)
        go_wp2
        go_roundw
        case rel => exact ⟨1, _, by omega, rfl, HB.out, rfl⟩
        case measure => simp [intOf]
      · have d0 : decide (p.q0 < 0) = false := decide_eq_false (by omega)
        have d1 : decide (p.l0 < 0) = false := decide_eq_false (by omega)
        have d2 : (p.l0 != 0) = true := by rw [bne_iff_ne]; omega
        have d3 : decide (p.l0 < p.q0) = false := decide_eq_false (by omega)
        have HB := Lib.hid (p.okTo_one hb)
        clear hb h0 h1 h2
        go_wp2_with fail
        go_quiet (fail)
        go_wp2
        go_roundw
        case rel => exact ⟨1, _, by omega, rfl, HB.out, rfl⟩
        case measure => simp [intOf]
    · rcases bad_cases p.q1 p.l1 with ⟨hb, h | ⟨h1, h2⟩ | ⟨h1, h2, h3⟩⟩ | ⟨hb, h0, h | ⟨h1, h2⟩⟩
      · have d0 : decide (p.q1 < 0) = true := decide_eq_true h
        have HB := Lib.hid (p.bad_one hb)
        clear hb h
        go_wp2_with fail
        go_quiet (fail)
        go_wp2
        go_ret
        exact ⟨ret_bool HB.out.symm, below_drewN (below_drewN ((Below.refl _ _).alloc (Nat.le_refl _) _) _) _⟩
      · have d0 : decide (p.q1 < 0) = false := decide_eq_false (by omega)
        have d1 : decide (p.l1 < 0) = true := decide_eq_true h2
        have HB := Lib.hid (p.bad_one hb)
        clear hb h1 h2
        go_wp2_with fail
        go_quiet (fail)
        go_wp2
        go_ret
        exact ⟨ret_bool HB.out.symm, below_drewN (below_drewN ((Below.refl _ _).alloc (Nat.le_refl _) _) _) _⟩
      · have d0 : decide (p.q1 < 0) = false := decide_eq_false (by omega)
        have d1 : decide (p.l1 < 0) = false := decide_eq_false (by omega)
        have d2 : (p.l1 != 0) = true := by rw [bne_iff_ne]; omega
        have d3 : decide (p.l1 < p.q1) = true := decide_eq_true h3
        have HB := Lib.hid (p.bad_one hb)
        clear hb h1 h2 h3
        go_wp2_with fail
        go_quiet (fail)
        go_wp2
        go_ret
        exact ⟨ret_bool HB.out.symm, below_drewN (below_drewN ((Below.refl _ _).alloc (Nat.le_refl _) _) _) _⟩
      · have d0 : decide (p.q1 < 0) = false := decide_eq_false (by omega)
        have d1 : decide (p.l1 < 0) = false := decide_eq_false (by omega)
        have d2 : (p.l1 != 0) = false := by rw [h]; rfl
        have HB := Lib.hid (p.okTo_two HO.out hb)
        clear hb h0 h
        go_wp2_with fail
        go_quiet (fail)
        go_wp2
        go_roundw
        case rel => exact ⟨2, _, by omega, rfl, HB.out, rfl⟩
        case measure => simp [intOf]
      · have d0 : decide (p.q1 < 0) = false := decide_eq_false (by omega)
        have d1 : decide (p.l1 < 0) = false := decide_eq_false (by omega)
        have d2 : (p.l1 != 0) = true := by rw [bne_iff_ne]; omega
        have d3 : decide (p.l1 < p.q1) = false := decide_eq_false (by omega)
        have HB := Lib.hid (p.okTo_two HO.out hb)
        clear hb h0 h1 h2
        go_wp2_with fail
        go_quiet (fail)
        go_wp2
        go_roundw
        case rel => exact ⟨2, _, by omega, rfl, HB.out, rfl⟩
        case measure => simp [intOf]
    · rcases bad_cases p.q2 p.l2 with ⟨hb, h | ⟨h1, h2⟩ | ⟨h1, h2, h3⟩⟩ | ⟨hb, h0, h | ⟨h1, h2⟩⟩
      · have d0 : decide (p.q2 < 0) = true := decide_eq_true h
        have HB := Lib.hid (p.bad_two hb)
        clear hb h
        go_wp2_with fail
        go_quiet (fail)
        go_wp2
        go_ret
        exact ⟨ret_bool HB.out.symm, below_drewN (below_drewN ((Below.refl _ _).alloc (Nat.le_refl _) _) _) _⟩
      · have d0 : decide (p.q2 < 0) = false := decide_eq_false (by omega)
        have d1 : decide (p.l2 < 0) = true := decide_eq_true h2
        have HB := Lib.hid (p.bad_two hb)
        clear hb h1 h2
        go_wp2_with fail
        go_quiet (fail)
        go_wp2
        go_ret
        exact ⟨ret_bool HB.out.symm, below_drewN (below_drewN ((Below.refl _ _).alloc (Nat.le_refl _) _) _) _⟩
      · have d0 : decide (p.q2 < 0) = false := decide_eq_false (by omega)
        have d1 : decide (p.l2 < 0) = false := decide_eq_false (by omega)
        have d2 : (p.l2 != 0) = true := by rw [bne_iff_ne]; omega
        have d3 : decide (p.l2 < p.q2) = true := decide_eq_true h3
        have HB := Lib.hid (p.bad_two hb)
        clear hb h1 h2 h3
        go_wp2_with fail
        go_quiet (fail)
        go_wp2
        go_ret
        exact ⟨ret_bool HB.out.symm, below_drewN (below_drewN ((Below.refl _ _).alloc (Nat.le_refl _) _) _) _⟩
      · have d0 : decide (p.q2 < 0) = false := decide_eq_false (by omega)
        have d1 : decide (p.l2 < 0) = false := decide_eq_false (by omega)
        have d2 : (p.l2 != 0) = false := by rw [h]; rfl
        have HB := Lib.hid (p.okTo_three HO.out hb)
        clear hb h0 h
        go_wp2_with fail
        go_quiet (fail)
        go_wp2
        go_roundw
        case rel => exact ⟨3, _, by omega, rfl, HB.out, rfl⟩
        case measure => simp [intOf]
      · have d0 : decide (p.q2 < 0) = false := decide_eq_false (by omega)
        have d1 : decide (p.l2 < 0) = false := decide_eq_false (by omega)
        have d2 : (p.l2 != 0) = true := by rw [bne_iff_ne]; omega
        have d3 : decide (p.l2 < p.q2) = false := decide_eq_false (by omega)
        have HB := Lib.hid (p.okTo_three HO.out hb)
        clear hb h0 h1 h2
        go_wp2_with fail
        go_quiet (fail)
        go_wp2
        go_roundw
        case rel => exact ⟨3, _, by omega, rfl, HB.out, rfl⟩
        case measure => simp [intOf]
    · have HA := Lib.hid (p.ok_of_three HO.out)
      clear HO hk
      have hid := hp.id
      have himg := hp.image
      cases hn : named p.id.data.toList
      · have HR : Hid (p.right = false) := by show p.right = false; simp [Pd.right, hn]
        go_wp2_with (go_at_call 20; refine (refNamed_any _ _ hid).mono ?_; rintro e w' ⟨rfl, rfl⟩)
        go_ret
        exact ⟨ret_bool HR.out.symm, below_drewN ((Below.refl _ _).alloc (Nat.le_refl _) _) _⟩
      · cases hm : named p.image.data.toList
        · have HR : Hid (p.right = false) := by show p.right = false; simp [Pd.right, hm]
          have HN := Lib.hid hn
          have HM := Lib.hid hm
          clear hn hm
          go_wp2_with fail
          refine (refNamed_any _ _ hid).mono ?_; rintro e w1 ⟨rfl, rfl⟩
          rw [HN.out]
          go_wp2_with fail
          refine (refNamed_any _ _ himg).mono ?_; rintro e w2 ⟨rfl, rfl⟩
          rw [HM.out]
          go_wp2_with fail
          go_ret
          exact ⟨ret_bool HR.out.symm, below_drewN ((Below.refl _ _).alloc (Nat.le_refl _) _) _⟩
        · have HR : Hid (p.right = p.rest) := by
            show p.right = p.rest
            simp [Pd.right, hn, hm, HA.out]
          have HN := Lib.hid hn
          have HM := Lib.hid hm
          clear hn hm
          rcases (show p.prio < -1073741824 ∨ 1073741824 < p.prio ∨ (-1073741824 ≤ p.prio ∧ p.prio ≤ 1073741824) by omega) with h | h | ⟨h1, h2⟩
          · have HX : Hid (p.rest = false) := by show p.rest = false; unfold Pd.rest; rw [decide_eq_false (by omega)]; rfl
            go_wp2_with fail
            refine (refNamed_any _ _ hid).mono ?_; rintro e w1 ⟨rfl, rfl⟩
            rw [HN.out]
            go_wp2_with fail
            refine (refNamed_any _ _ himg).mono ?_; rintro e w2 ⟨rfl, rfl⟩
            rw [HM.out]
            go_wp2_with fail
            go_ret
            exact ⟨ret_bool (HR.out.trans HX.out).symm, below_drewN ((Below.refl _ _).alloc (Nat.le_refl _) _) _⟩
          · have HX : Hid (p.rest = false) := by show p.rest = false; unfold Pd.rest; rw [decide_eq_false (by omega : ¬ p.prio ≤ 1073741824)]; simp
            go_wp2_with fail
            refine (refNamed_any _ _ hid).mono ?_; rintro e w1 ⟨rfl, rfl⟩
            rw [HN.out]
            go_wp2_with fail
            refine (refNamed_any _ _ himg).mono ?_; rintro e w2 ⟨rfl, rfl⟩
            rw [HM.out]
            go_wp2_with fail
            go_ret
            exact ⟨ret_bool (HR.out.trans HX.out).symm, below_drewN ((Below.refl _ _).alloc (Nat.le_refl _) _) _⟩
          · have HX : Hid (p.rest = decide (0 ≤ p.size)) := by show p.rest = _; unfold Pd.rest; rw [decide_eq_true h1, decide_eq_true h2]; rfl
            go_wp2_with fail
            refine (refNamed_any _ _ hid).mono ?_; rintro e w1 ⟨rfl, rfl⟩
            rw [HN.out]
            go_wp2_with fail
            refine (refNamed_any _ _ himg).mono ?_; rintro e w2 ⟨rfl, rfl⟩
            rw [HM.out]
            go_wp2_with fail
            go_ret
            exact ⟨ret_bool (HR.out.trans HX.out).symm, below_drewN ((Below.refl _ _).alloc (Nat.le_refl _) _) _⟩
end Go.Proofs.YtkpcinkpdonihaaDoor
