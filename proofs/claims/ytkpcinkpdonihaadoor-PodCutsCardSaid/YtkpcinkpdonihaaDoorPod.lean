/- Pods as data; Small, Right of the program and of the reference. -/
import Derived.Test.YtkpcinkpdonihaaDoorNames
import Derived.BigQuiet
import Derived.Deep.QuietTactic
namespace Go.Proofs.YtkpcinkpdonihaaDoor
open Go.RowKit

/-- a pod, as data -/
structure Pd where
  id : ByteArray
  prio : Int
  crit : Bool
  q0 : Int
  q1 : Int
  q2 : Int
  l0 : Int
  l1 : Int
  l2 : Int
  image : ByteArray
  size : Int

abbrev Pd.cells (p : Pd) : Array Value := #[.string p.id, .int .i64 p.prio, .bool p.crit, .int .i64 p.q0, .int .i64 p.q1, .int .i64 p.q2, .int .i64 p.l0, .int .i64 p.l1, .int .i64 p.l2, .string p.image, .int .i64 p.size]

/-- its numbers are int64s, its texts have lengths -/
structure Pd.Wf (p : Pd) : Prop where
  prio : I64 p.prio
  q0 : I64 p.q0
  q1 : I64 p.q1
  q2 : I64 p.q2
  l0 : I64 p.l0
  l1 : I64 p.l1
  l2 : I64 p.l2
  size : I64 p.size
  id : p.id.size ≤ 9223372036854775807
  image : p.image.size ≤ 9223372036854775807

/-- a request and a limit that may not be -/
def bad (q l : Int) : Bool := decide (q < 0) || (decide (l < 0) || (decide (0 < l) && decide (l < q)))
def Pd.amountsOk (p : Pd) : Bool := !bad p.q0 p.l0 && (!bad p.q1 p.l1 && !bad p.q2 p.l2)
def Pd.rest (p : Pd) : Bool := decide (-1073741824 ≤ p.prio) && (decide (p.prio ≤ 1073741824) && decide (0 ≤ p.size))
def Pd.right (p : Pd) : Bool := p.amountsOk && (named p.id.data.toList && (named p.image.data.toList && p.rest))
def Pd.small (p : Pd) : Bool := decide (p.id.size ≤ 60) && decide (p.image.size ≤ 60)

/-- the first k amounts are good -/
def Pd.okTo (p : Pd) (k : Nat) : Bool := (decide (k ≤ 0) || !bad p.q0 p.l0) && ((decide (k ≤ 1) || !bad p.q1 p.l1) && (decide (k ≤ 2) || !bad p.q2 p.l2))

theorem Pd.okTo_zero (p : Pd) : p.okTo 0 = true := by simp [Pd.okTo]
theorem Pd.okTo_one (p : Pd) (h : bad p.q0 p.l0 = false) : p.okTo 1 = true := by simp [Pd.okTo, h]
theorem Pd.okTo_two (p : Pd) (h0 : p.okTo 1 = true) (h : bad p.q1 p.l1 = false) : p.okTo 2 = true := by simp [Pd.okTo, h] at h0 ⊢; exact h0
theorem Pd.okTo_three (p : Pd) (h0 : p.okTo 2 = true) (h : bad p.q2 p.l2 = false) : p.okTo 3 = true := by simp [Pd.okTo, h] at h0 ⊢; exact h0
theorem Pd.ok_of_three (p : Pd) (h : p.okTo 3 = true) : p.amountsOk = true := by simpa [Pd.okTo, Pd.amountsOk] using h
theorem Pd.bad_zero (p : Pd) (h : bad p.q0 p.l0 = true) : p.right = false := by simp [Pd.right, Pd.amountsOk, h]
theorem Pd.bad_one (p : Pd) (h : bad p.q1 p.l1 = true) : p.right = false := by simp [Pd.right, Pd.amountsOk, h]
theorem Pd.bad_two (p : Pd) (h : bad p.q2 p.l2 = true) : p.right = false := by simp [Pd.right, Pd.amountsOk, h]

theorem bad_cases (q l : Int) : (bad q l = true ∧ (q < 0 ∨ (0 ≤ q ∧ l < 0) ∨ (0 ≤ q ∧ 0 < l ∧ l < q))) ∨ (bad q l = false ∧ 0 ≤ q ∧ (l = 0 ∨ (0 < l ∧ q ≤ l))) := by
  unfold bad
  by_cases h1 : q < 0 <;> by_cases h2 : l < 0 <;> by_cases h3 : 0 < l <;> by_cases h4 : l < q <;> simp [h1, h2, h3, h4] <;> omega

theorem idx3_0 (x0 x1 x2 : Value) (w : World) : (Instr.index 24 (.agg #[x0, x1, x2]) (.int .i64 0)).run Tryd.prog w = .ok x0 w := by kernel_rfl
theorem idx3_1 (x0 x1 x2 : Value) (w : World) : (Instr.index 24 (.agg #[x0, x1, x2]) (.int .i64 1)).run Tryd.prog w = .ok x1 w := by kernel_rfl
theorem idx3_2 (x0 x1 x2 : Value) (w : World) : (Instr.index 24 (.agg #[x0, x1, x2]) (.int .i64 2)).run Tryd.prog w = .ok x2 w := by kernel_rfl
attribute [go_sem] idx3_0 idx3_1 idx3_2


set_option maxHeartbeats 2000000 in
theorem right_any (p : Pd) (w : World) (hp : p.Wf) :
    Calls Tryd.prog 10 #[.agg p.cells] w fun e w' => e = .returned (.bool p.right) ∧ Below w.heap.size w w' := by
  go_enter Tryd.func10, Tryd.ntmps10
  go_wp2
  go_loop [7] (fun t => ∃ k : Nat, k ≤ 3 ∧ t = .int .i64 k ∧ p.okTo k = true) (fun t => 3 - (intOf t).toNat)
  case atStart => exact ⟨0, by omega, rfl, p.okTo_zero⟩
  case round =>
    obtain ⟨k, hk, rfl, hok⟩ := hrel
    have HO := Lib.hid hok
    clear hok
    obtain rfl | rfl | rfl | rfl : k = 0 ∨ k = 1 ∨ k = 2 ∨ k = 3 := by omega
    · rcases bad_cases p.q0 p.l0 with ⟨hb, h | ⟨h1, h2⟩ | ⟨h1, h2, h3⟩⟩ | ⟨hb, h0, h | ⟨h1, h2⟩⟩
      iterate 3
        · have HB := Lib.hid (p.bad_zero hb)
          clear hb
          go_wp2
          go_ret
          exact ⟨ret_bool HB.out.symm, (Below.refl _ _).alloc (Nat.le_refl _) _⟩
      all_goals
        have HB := Lib.hid (p.okTo_one hb)
        clear hb
        go_wp2
        go_round
        case rel => exact ⟨1, by omega, rfl, HB.out⟩
        case measure => simp [intOf]
    · rcases bad_cases p.q1 p.l1 with ⟨hb, h | ⟨h1, h2⟩ | ⟨h1, h2, h3⟩⟩ | ⟨hb, h0, h | ⟨h1, h2⟩⟩
      iterate 3
        · have HB := Lib.hid (p.bad_one hb)
          clear hb
          go_wp2
          go_ret
          exact ⟨ret_bool HB.out.symm, (Below.refl _ _).alloc (Nat.le_refl _) _⟩
      all_goals
        have HB := Lib.hid (p.okTo_two HO.out hb)
        clear hb
        go_wp2
        go_round
        case rel => exact ⟨2, by omega, rfl, HB.out⟩
        case measure => simp [intOf]
    · rcases bad_cases p.q2 p.l2 with ⟨hb, h | ⟨h1, h2⟩ | ⟨h1, h2, h3⟩⟩ | ⟨hb, h0, h | ⟨h1, h2⟩⟩
      iterate 3
        · have HB := Lib.hid (p.bad_two hb)
          clear hb
          go_wp2
          go_ret
          exact ⟨ret_bool HB.out.symm, (Below.refl _ _).alloc (Nat.le_refl _) _⟩
      all_goals
        have HB := Lib.hid (p.okTo_three HO.out hb)
        clear hb
        go_wp2
        go_round
        case rel => exact ⟨3, by omega, rfl, HB.out⟩
        case measure => simp [intOf]
    · have HA := Lib.hid (p.ok_of_three HO.out)
      clear HO hk
      cases hn : named p.id.data.toList
      · have HR : Hid (p.right = false) := by show p.right = false; simp [Pd.right, hn]
        go_wp2_with (go_at_call 11; refine (named_any _ _ hp.id).mono ?_; rintro e w' ⟨rfl, hb⟩; obtain ⟨hc, hf⟩ := bcell hb)
        go_ret
        exact ⟨ret_bool HR.out.symm, ((Below.refl _ _).alloc (Nat.le_refl _) _).trans (hb.mono (by simp))⟩
      · cases hm : named p.image.data.toList
        · have HR : Hid (p.right = false) := by show p.right = false; simp [Pd.right, hm]
          have HN := Lib.hid hn
          have HM := Lib.hid hm
          clear hn hm
          go_wp2_with fail
          refine (named_any _ _ hp.id).mono ?_; rintro e w1 ⟨rfl, hb⟩; obtain ⟨hc, hf⟩ := bcell hb
          rw [HN.out]
          go_wp2_with fail
          refine (named_any _ _ hp.image).mono ?_; rintro e w2 ⟨rfl, hb2⟩
          rw [HM.out]
          obtain ⟨hc2, hf2⟩ := bcell hb2
          go_wp2_with fail
          go_ret
          exact ⟨ret_bool HR.out.symm, (((Below.refl _ _).alloc (Nat.le_refl _) _).trans (hb.mono (by simp))).trans (hb2.mono (by have := hb.size; simp at this; omega))⟩
        · have HR : Hid (p.right = p.rest) := by
            show p.right = p.rest
            simp [Pd.right, hn, hm, HA.out]
          have HN := Lib.hid hn
          have HM := Lib.hid hm
          clear hn hm
          rcases (show p.prio < -1073741824 ∨ 1073741824 < p.prio ∨ (-1073741824 ≤ p.prio ∧ p.prio ≤ 1073741824) by omega) with h | h | ⟨h1, h2⟩
          · have HX : Hid (p.rest = false) := by show p.rest = false; unfold Pd.rest; rw [decide_eq_false (by omega)]; rfl
            go_wp2_with fail
            refine (named_any _ _ hp.id).mono ?_; rintro e w1 ⟨rfl, hb⟩; obtain ⟨hc, hf⟩ := bcell hb
            rw [HN.out]
            go_wp2_with fail
            refine (named_any _ _ hp.image).mono ?_; rintro e w2 ⟨rfl, hb2⟩
            rw [HM.out]
            have hz : w.heap.size + 1 ≤ w1.heap.size := by have := hb.size; simpa using this
            have hz' : w.heap.size < w1.heap.size := hz
            obtain ⟨hc2, hf2⟩ := bcell hb2
            go_wp2_with fail
            go_ret
            exact ⟨ret_bool (HR.out.trans HX.out).symm, (((Below.refl _ _).alloc (Nat.le_refl _) _).trans (hb.mono (by simp))).trans (hb2.mono (by omega))⟩
          · have HX : Hid (p.rest = false) := by show p.rest = false; unfold Pd.rest; rw [decide_eq_false (by omega : ¬ p.prio ≤ 1073741824)]; simp
            go_wp2_with fail
            refine (named_any _ _ hp.id).mono ?_; rintro e w1 ⟨rfl, hb⟩; obtain ⟨hc, hf⟩ := bcell hb
            rw [HN.out]
            go_wp2_with fail
            refine (named_any _ _ hp.image).mono ?_; rintro e w2 ⟨rfl, hb2⟩
            rw [HM.out]
            have hz : w.heap.size + 1 ≤ w1.heap.size := by have := hb.size; simpa using this
            have hz' : w.heap.size < w1.heap.size := hz
            obtain ⟨hc2, hf2⟩ := bcell hb2
            go_wp2_with fail
            go_ret
            exact ⟨ret_bool (HR.out.trans HX.out).symm, (((Below.refl _ _).alloc (Nat.le_refl _) _).trans (hb.mono (by simp))).trans (hb2.mono (by omega))⟩
          · have HX : Hid (p.rest = decide (0 ≤ p.size)) := by show p.rest = _; unfold Pd.rest; rw [decide_eq_true h1, decide_eq_true h2]; rfl
            go_wp2_with fail
            refine (named_any _ _ hp.id).mono ?_; rintro e w1 ⟨rfl, hb⟩; obtain ⟨hc, hf⟩ := bcell hb
            rw [HN.out]
            go_wp2_with fail
            refine (named_any _ _ hp.image).mono ?_; rintro e w2 ⟨rfl, hb2⟩
            rw [HM.out]
            have hz : w.heap.size + 1 ≤ w1.heap.size := by have := hb.size; simpa using this
            have hz' : w.heap.size < w1.heap.size := hz
            obtain ⟨hc2, hf2⟩ := bcell hb2
            go_wp2_with fail
            go_ret
            exact ⟨ret_bool (HR.out.trans HX.out).symm, (((Below.refl _ _).alloc (Nat.le_refl _) _).trans (hb.mono (by simp))).trans (hb2.mono (by omega))⟩

end Go.Proofs.YtkpcinkpdonihaaDoor
