/- bilgelaw12.PodUnlike: whatever two pods. -/
import Derived.Test.YtjngkmfkgbcjjaaDoorAwake
import Derived.Test.YtjngkmfkgbcjjaaDoorRefPut
import Derived.Test.YtjngkmfkgbcjjaaDoorBack
import Derived.Test.YtjngkmfkgbcjjaaDoorEqPod
namespace Go.Proofs.YtjngkmfkgbcjjaaDoor
open Go.RowKit

/-- two pods' boxes -/
def P2 (p q : Pd) (w W : World) : Prop := Blk W w.heap.size 24 p.cells ∧ Blk W (w.heap.size + 1) 24 q.cells ∧ Below w.heap.size w W
theorem P2.below {p q : Pd} {w W W' : World} (h : P2 p q w W) (hb : Below W.heap.size W W') : P2 p q w W' := ⟨h.1.belowAll hb, h.2.1.belowAll hb, h.2.2.trans (hb.mono h.2.2.size)⟩
theorem P2.start (p q : Pd) (w : World) : P2 p q w ((w.alloc (.cells p.cells 24)).alloc (.cells q.cells 24)) := by
  have h2 := Blk.new (w.alloc (.cells p.cells 24)) 24 q.cells
  have e : (w.alloc (.cells p.cells 24)).heap.size = w.heap.size + 1 := by simp
  rw [e] at h2
  exact ⟨(Blk.new _ _ _).alloc _, h2, ((Below.refl _ _).alloc (Nat.le_refl _) _).alloc (by rw [e]; omega) _⟩

set_option maxHeartbeats 4000000 in
theorem unlike_exit1 (p q : Pd) (w : World) (HSp : Hid (p.small = false)) :
    Calls Tryd.prog 8 #[.agg p.cells, .agg q.cells] w fun e w' => e = .returned (.bool true) ∧ Below w.heap.size w w' := by
  go_enter Tryd.func8, Tryd.ntmps8
  go_wp2_with fail
  refine (awake_any _).mono ?_; rintro e w0 ⟨rfl, hb0⟩
  have HP0 := Lib.hid ((P2.start p q w).below hb0)
  clear hb0
  have c0 := HP0.out.1.cell
  have d0 := HP0.out.2.1.cell
  go_wp2_with fail
  refine (small_any p _).mono ?_; rintro e w1 ⟨rfl, hb1⟩
  rw [HSp.out]
  have HP1 := Lib.hid (HP0.out.below hb1)
  clear hb1 c0 d0 HP0
  have c1 := HP1.out.1.cell
  have d1 := HP1.out.2.1.cell
  go_wp2_with fail
  refine (awake_any _).mono ?_; rintro e w2 ⟨rfl, hb2⟩
  have HP2 := Lib.hid (HP1.out.below hb2)
  clear hb2
  go_wp2_with fail
  go_ret
  exact ⟨rfl, HP2.out.2.2⟩

set_option maxHeartbeats 4000000 in
theorem unlike_exit2 (p q : Pd) (w : World) (HSp : Hid (p.small = true)) (HSq : Hid (q.small = false)) :
    Calls Tryd.prog 8 #[.agg p.cells, .agg q.cells] w fun e w' => e = .returned (.bool true) ∧ Below w.heap.size w w' := by
  go_enter Tryd.func8, Tryd.ntmps8
  go_wp2_with fail
  refine (awake_any _).mono ?_; rintro e w0 ⟨rfl, hb0⟩
  have HP0 := Lib.hid ((P2.start p q w).below hb0)
  clear hb0
  have c0 := HP0.out.1.cell
  have d0 := HP0.out.2.1.cell
  go_wp2_with fail
  refine (small_any p _).mono ?_; rintro e w1 ⟨rfl, hb1⟩
  rw [HSp.out]
  have HP1 := Lib.hid (HP0.out.below hb1)
  clear hb1 c0 d0 HP0
  have c1 := HP1.out.1.cell
  have d1 := HP1.out.2.1.cell
  go_wp2_with fail
  refine (small_any q _).mono ?_; rintro e w2 ⟨rfl, hb2⟩
  rw [HSq.out]
  have HP2 := Lib.hid (HP1.out.below hb2)
  clear hb2 c1 d1 HP1
  have c2 := HP2.out.1.cell
  have d2 := HP2.out.2.1.cell
  go_wp2_with fail
  refine (awake_any _).mono ?_; rintro e w3 ⟨rfl, hb3⟩
  have HP3 := Lib.hid (HP2.out.below hb3)
  clear hb3
  go_wp2_with fail
  go_ret
  exact ⟨rfl, HP3.out.2.2⟩

set_option maxHeartbeats 4000000 in
theorem unlike_exit3 (p q : Pd) (w : World) (hp : p.Wf) (HSp : Hid (p.small = true)) (HSq : Hid (q.small = true)) (HRp : Hid (p.right = false)) :
    Calls Tryd.prog 8 #[.agg p.cells, .agg q.cells] w fun e w' => e = .returned (.bool true) ∧ Below w.heap.size w w' := by
  go_enter Tryd.func8, Tryd.ntmps8
  go_wp2_with fail
  refine (awake_any _).mono ?_; rintro e w0 ⟨rfl, hb0⟩
  have HP0 := Lib.hid ((P2.start p q w).below hb0)
  clear hb0
  have c0 := HP0.out.1.cell
  have d0 := HP0.out.2.1.cell
  go_wp2_with fail
  refine (small_any p _).mono ?_; rintro e w1 ⟨rfl, hb1⟩
  rw [HSp.out]
  have HP1 := Lib.hid (HP0.out.below hb1)
  clear hb1 c0 d0 HP0
  have c1 := HP1.out.1.cell
  have d1 := HP1.out.2.1.cell
  go_wp2_with fail
  refine (small_any q _).mono ?_; rintro e w2 ⟨rfl, hb2⟩
  rw [HSq.out]
  have HP2 := Lib.hid (HP1.out.below hb2)
  clear hb2 c1 d1 HP1
  have c2 := HP2.out.1.cell
  have d2 := HP2.out.2.1.cell
  go_wp2_with fail
  refine (refRight_any p _ hp).mono ?_; rintro e w3 ⟨rfl, hb3⟩
  rw [HRp.out]
  have HP3 := Lib.hid (HP2.out.below hb3)
  clear hb3 c2 d2 HP2
  have c3 := HP3.out.1.cell
  have d3 := HP3.out.2.1.cell
  go_wp2_with fail
  refine (awake_any _).mono ?_; rintro e w4 ⟨rfl, hb4⟩
  have HP4 := Lib.hid (HP3.out.below hb4)
  clear hb4
  go_wp2_with fail
  go_ret
  exact ⟨rfl, HP4.out.2.2⟩

set_option maxHeartbeats 4000000 in
theorem unlike_exit4 (p q : Pd) (w : World) (hp : p.Wf) (hq : q.Wf) (HSp : Hid (p.small = true)) (HSq : Hid (q.small = true)) (HRp : Hid (p.right = true)) (HRq : Hid (q.right = false)) :
    Calls Tryd.prog 8 #[.agg p.cells, .agg q.cells] w fun e w' => e = .returned (.bool true) ∧ Below w.heap.size w w' := by
  go_enter Tryd.func8, Tryd.ntmps8
  go_wp2_with fail
  refine (awake_any _).mono ?_; rintro e w0 ⟨rfl, hb0⟩
  have HP0 := Lib.hid ((P2.start p q w).below hb0)
  clear hb0
  have c0 := HP0.out.1.cell
  have d0 := HP0.out.2.1.cell
  go_wp2_with fail
  refine (small_any p _).mono ?_; rintro e w1 ⟨rfl, hb1⟩
  rw [HSp.out]
  have HP1 := Lib.hid (HP0.out.below hb1)
  clear hb1 c0 d0 HP0
  have c1 := HP1.out.1.cell
  have d1 := HP1.out.2.1.cell
  go_wp2_with fail
  refine (small_any q _).mono ?_; rintro e w2 ⟨rfl, hb2⟩
  rw [HSq.out]
  have HP2 := Lib.hid (HP1.out.below hb2)
  clear hb2 c1 d1 HP1
  have c2 := HP2.out.1.cell
  have d2 := HP2.out.2.1.cell
  go_wp2_with fail
  refine (refRight_any p _ hp).mono ?_; rintro e w3 ⟨rfl, hb3⟩
  rw [HRp.out]
  have HP3 := Lib.hid (HP2.out.below hb3)
  clear hb3 c2 d2 HP2
  have c3 := HP3.out.1.cell
  have d3 := HP3.out.2.1.cell
  go_wp2_with fail
  refine (refRight_any q _ hq).mono ?_; rintro e w4 ⟨rfl, hb4⟩
  rw [HRq.out]
  have HP4 := Lib.hid (HP3.out.below hb4)
  clear hb4 c3 d3 HP3
  have c4 := HP4.out.1.cell
  have d4 := HP4.out.2.1.cell
  go_wp2_with fail
  refine (awake_any _).mono ?_; rintro e w5 ⟨rfl, hb5⟩
  have HP5 := Lib.hid (HP4.out.below hb5)
  clear hb5
  go_wp2_with fail
  go_ret
  exact ⟨rfl, HP5.out.2.2⟩


set_option maxHeartbeats 8000000 in
theorem unlike_main (p q : Pd) (w : World) (hp : p.Wf) (hq : q.Wf) (HSp : Hid (p.small = true)) (HSq : Hid (q.small = true)) (HRp : Hid (p.right = true)) (HRq : Hid (q.right = true)) :
    Calls Tryd.prog 8 #[.agg p.cells, .agg q.cells] w fun e w' => e = .returned (.bool true) ∧ Below w.heap.size w w' := by
  go_enter Tryd.func8, Tryd.ntmps8
  go_wp2_with fail
  refine (awake_any _).mono ?_; rintro e w0 ⟨rfl, hb0⟩
  have HP0 := Lib.hid ((P2.start p q w).below hb0)
  clear hb0
  have c0 := HP0.out.1.cell
  have d0 := HP0.out.2.1.cell
  go_wp2_with fail
  refine (small_any p _).mono ?_; rintro e w1 ⟨rfl, hb1⟩
  rw [HSp.out]
  have HP1 := Lib.hid (HP0.out.below hb1)
  clear hb1 c0 d0 HP0
  have c1 := HP1.out.1.cell
  have d1 := HP1.out.2.1.cell
  go_wp2_with fail
  refine (small_any q _).mono ?_; rintro e w2 ⟨rfl, hb2⟩
  rw [HSq.out]
  have HP2 := Lib.hid (HP1.out.below hb2)
  clear hb2 c1 d1 HP1
  have c2 := HP2.out.1.cell
  have d2 := HP2.out.2.1.cell
  go_wp2_with fail
  refine (refRight_any p _ hp).mono ?_; rintro e w3 ⟨rfl, hb3⟩
  rw [HRp.out]
  have HP3 := Lib.hid (HP2.out.below hb3)
  clear hb3 c2 d2 HP2
  have c3 := HP3.out.1.cell
  have d3 := HP3.out.2.1.cell
  go_wp2_with fail
  refine (refRight_any q _ hq).mono ?_; rintro e w4 ⟨rfl, hb4⟩
  rw [HRq.out]
  have HP4 := Lib.hid (HP3.out.below hb4)
  clear hb4 c3 d3 HP3
  have c4 := HP4.out.1.cell
  have d4 := HP4.out.2.1.cell
  go_wp2_with fail
  refine (put_yes p _ hp HRp.out).mono ?_; rintro e w5 ⟨A1, k1, rfl, hO1, hb5⟩
  have HP5 := Lib.hid (And.intro (HP4.out.below hb5) (hO1.mono HP4.out.2.2.size))
  clear hb5 hO1 c4 d4 HP4
  have c5 := HP5.out.1.1.cell
  have d5 := HP5.out.1.2.1.cell
  go_wp2_with fail
  refine (put_yes q _ hq HRq.out).mono ?_; rintro e w6 ⟨A2, k2, rfl, hO2, hb6⟩
  have HP6 := Lib.hid (And.intro (HP5.out.1.below hb6) (And.intro (HP5.out.2.below hb6 (Nat.le_refl _)) (hO2.mono HP5.out.1.2.2.size)))
  clear hb6 hO2 c5 d5 HP5
  have c6 := HP6.out.1.1.cell
  have d6 := HP6.out.1.2.1.cell
  by_cases hpq : p = q
  · subst hpq
    have he := p.eqB_self
    go_wp2_with fail
    refine (same_any A1 A2 p.bytes p.bytes k1 k2 _ HP6.out.2.1.toRds HP6.out.2.2.toRds).mono ?_; rintro e w7 ⟨rfl, rfl⟩
    rw [beq_self_eq_true]
    go_wp2_with fail
    go_ret
    exact ⟨rfl, HP6.out.1.2.2⟩
  · have he := Pd.eqB_no hpq
    have HN := Lib.hid hpq
    clear hpq
    have hp0 : 0 < p.bytes.length := by unfold Pd.bytes textB; simp
    have hq0 : 0 < q.bytes.length := by unfold Pd.bytes textB; simp
    have np : (p.bytes == q.bytes.take p.bytes.length) = false := beq_eq_false_iff_ne.2 fun h => HN.out (bytes_begin p q hp hq HRp.out HRq.out (q.bytes.drop p.bytes.length) (by conv => lhs; rw [← List.take_append_drop p.bytes.length q.bytes, ← h]))
    have nq : (q.bytes == p.bytes.take q.bytes.length) = false := beq_eq_false_iff_ne.2 fun h => HN.out (bytes_begin q p hq hp HRq.out HRp.out (p.bytes.drop q.bytes.length) (by conv => lhs; rw [← List.take_append_drop q.bytes.length p.bytes, ← h])).symm
    obtain ⟨b1, o1, rfl, _⟩ := HP6.out.2.1.toRds.at_ (i := 0) hp0
    obtain ⟨b2, o2, rfl, _⟩ := HP6.out.2.2.toRds.at_ (i := 0) hq0
    obtain ⟨_, hc1, hm1⟩ := HP6.out.2.1.cap
    obtain ⟨_, hc2, hm2⟩ := HP6.out.2.2.cap
    have samep (h : p.bytes.length ≤ q.bytes.length) : Calls Tryd.prog 16 #[.slice (some ⟨b1, o1, none⟩) p.bytes.length k1, .slice (some ⟨b2, o2, none⟩) p.bytes.length k2] w6 fun e w' => e = .returned (.bool false) ∧ w6 = w' := by
      have hs := same_any (some ⟨b1, o1, none⟩) (some ⟨b2, o2, none⟩) p.bytes (q.bytes.take p.bytes.length) k1 k2 w6 HP6.out.2.1.toRds (HP6.out.2.2.toRds.take _)
      rw [List.length_take, Nat.min_eq_left h, np] at hs
      exact hs
    have sameq (h : q.bytes.length ≤ p.bytes.length) : Calls Tryd.prog 16 #[.slice (some ⟨b2, o2, none⟩) q.bytes.length k2, .slice (some ⟨b1, o1, none⟩) q.bytes.length k1] w6 fun e w' => e = .returned (.bool false) ∧ w6 = w' := by
      have hs := same_any (some ⟨b2, o2, none⟩) (some ⟨b1, o1, none⟩) q.bytes (p.bytes.take q.bytes.length) k2 k1 w6 HP6.out.2.2.toRds (HP6.out.2.1.toRds.take _)
      rw [List.length_take, Nat.min_eq_left h, nq] at hs
      exact hs
    have Hp := Lib.hid samep
    have Hq := Lib.hid sameq
    clear samep sameq np nq
    rcases Nat.lt_trichotomy p.bytes.length q.bytes.length with hlt | heq | hgt
    · have g1 : decide ((q.bytes.length : Int) < (p.bytes.length : Int)) = false := decide_eq_false (by omega)
      have g2 : decide ((p.bytes.length : Int) < (q.bytes.length : Int)) = true := decide_eq_true (by omega)
      have i1 : (p.bytes.length : Int) ≤ (k2 : Int) := by omega
      go_wp2_with fail
      refine (Hp.out (by omega)).mono ?_; rintro e w7 ⟨rfl, rfl⟩
      go_wp2_with fail
      go_ret
      exact ⟨rfl, HP6.out.1.2.2⟩
    · have g1 : decide ((q.bytes.length : Int) < (p.bytes.length : Int)) = false := decide_eq_false (by omega)
      have g2 : decide ((p.bytes.length : Int) < (q.bytes.length : Int)) = false := decide_eq_false (by omega)
      have i1 : (p.bytes.length : Int) ≤ (k2 : Int) := by omega
      have i2 : (q.bytes.length : Int) ≤ (k1 : Int) := by omega
      have n1 : ¬ (q.bytes.length < p.bytes.length) := by omega
      have n2 : ¬ (p.bytes.length < q.bytes.length) := by omega
      have HE := Lib.hid heq
      clear heq
      go_wp2_with fail
      all_goals first
        | (exfalso; have := HE.out; omega)
        | (refine (Hp.out (Nat.le_of_eq HE.out)).mono ?_; rintro e w7 ⟨rfl, rfl⟩; go_wp2_with fail
           all_goals first
             | (exfalso; have := HE.out; omega)
             | (go_ret; exact ⟨rfl, HP6.out.1.2.2⟩)
             | (refine (Hq.out (Nat.le_of_eq HE.out.symm)).mono ?_; rintro e w8 ⟨rfl, rfl⟩; go_wp2_with fail; go_ret; exact ⟨rfl, HP6.out.1.2.2⟩))
    · have g1 : decide ((q.bytes.length : Int) < (p.bytes.length : Int)) = true := decide_eq_true (by omega)
      have g2 : decide ((p.bytes.length : Int) < (q.bytes.length : Int)) = false := decide_eq_false (by omega)
      have i2 : (q.bytes.length : Int) ≤ (k1 : Int) := by omega
      go_wp2_with fail
      refine (Hq.out (by omega)).mono ?_; rintro e w8 ⟨rfl, rfl⟩
      go_wp2_with fail
      go_ret
      exact ⟨rfl, HP6.out.1.2.2⟩

/-- the law, of whatever two pods -/
theorem unlike_any (p q : Pd) (w : World) (hp : p.Wf) (hq : q.Wf) :
    Calls Tryd.prog 8 #[.agg p.cells, .agg q.cells] w fun e w' => e = .returned (.bool true) ∧ Below w.heap.size w w' := by
  cases h1 : p.small
  · exact unlike_exit1 p q w h1
  cases h2 : q.small
  · exact unlike_exit2 p q w h1 h2
  cases h3 : p.right
  · exact unlike_exit3 p q w hp h1 h2 h3
  cases h4 : q.right
  · exact unlike_exit4 p q w hp hq h1 h2 h3 h4
  · exact unlike_main p q w hp hq h1 h2 h3 h4
end Go.Proofs.YtjngkmfkgbcjjaaDoor
