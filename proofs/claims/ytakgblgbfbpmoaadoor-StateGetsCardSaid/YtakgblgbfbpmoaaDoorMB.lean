/- Several texts in one: Pods as data; bilgeref12's Named, Small, Right. Pods in a row. pod.Sums, bilgeref12.Sums: the sums of all requests; their order does not matter. victim.May, bilgeref21.May; sat.Full, victim.Fits, bilgeref21.Fits. -/
import Derived.WalkKit
import Derived.WalkSpells
import Derived.WalkLawsBesides
import Derived.Lib.Hide
import Derived.BigQuiet
import Derived.Deep.QuietTactic
import Derived.Deep.MidRow
import Derived.Outline
import Derived.Deep.RegionLaw
import Derived.Test.YtakgblgbfbpmoaaDoorMA
namespace Go.Proofs.YtakgblgbfbpmoaaDoor
open Go.RowKit

/-- a sign of a name -/
def sign (c : UInt8) : Bool := (97 ≤ c && c ≤ 122) || ((48 ≤ c && c ≤ 57) || c == 45)
/-- a name -/
def named (l : List UInt8) : Bool := decide (1 ≤ l.length) && decide (l.length ≤ 24) && l.all sign
theorem take_snoc (s : ByteArray) (k : Nat) (h : k < s.size) : s.data.toList.take (k + 1) = s.data.toList.take k ++ [s[k]] := by
  rw [List.take_succ_eq_append_getElem (by simpa using h)]; rfl

/-- one sign's test, in the numbers that the walk shows -/
theorem sign_iff (c : UInt8) : sign c = true ↔ ((97 : Int) ≤ c.toNat ∧ (c.toNat : Int) ≤ 122) ∨ ((48 : Int) ≤ c.toNat ∧ (c.toNat : Int) ≤ 57) ∨ (c.toNat : Int) = 45 := by
  unfold sign
  simp [UInt8.le_iff_toNat_le, ← UInt8.toNat_inj]
  omega

theorem named_of (l : List UInt8) : (decide (1 ≤ l.length) && decide (l.length ≤ 24) && l.all sign) = named l := rfl

theorem named_no (s : ByteArray) (k : Nat) (h : k < s.size) (hs : sign s[k] = false) : named s.data.toList = false := by
  have : s.data.toList.all sign = false := by
    rw [List.all_eq_false]
    exact ⟨s[k], by simp [ByteArray.getElem_eq_getElem_data], by simpa using hs⟩
  unfold named; rw [this]; simp

theorem named_yes (s : ByteArray) (h : (s.data.toList.take s.size).all sign = true) : named s.data.toList = (decide (1 ≤ s.size) && decide (s.size ≤ 24)) := by
  have hl : s.data.toList.length = s.size := rfl
  rw [List.take_of_length_le (by omega)] at h
  unfold named; rw [h, hl]; simp

set_option maxHeartbeats 1000000 in
theorem refNamed_any (s : ByteArray) (w : World) (hs : s.size ≤ 9223372036854775807) :
    Calls Tryd.prog 39 #[.string s] w fun e w' => e = .returned (.bool (named s.data.toList)) ∧ w = w' := by
  go_enter Tryd.func39, Tryd.ntmps39
  go_wp2
  go_loop [3] (fun i => ∃ k : Nat, k ≤ s.size ∧ i = .int .i64 k ∧ (s.data.toList.take k).all sign = true) (fun i => s.size - (RowKit.intOf i).toNat)
  case atStart => exact ⟨0, Nat.zero_le _, rfl, rfl⟩
  case round =>
    obtain ⟨k, hk, rfl, hall⟩ := hrel
    have A := Lib.hid hall
    clear hall
    by_cases hlt : k < s.size
    · by_cases hc : sign s[k] = true
      · have hT := take_snoc s k hlt
        have H : Hid ((s.data.toList.take (k + 1)).all sign = true) := by
          show (s.data.toList.take (k + 1)).all sign = true
          rw [hT, List.all_append, A.out]; simpa using hc
        clear hT
        rw [sign_iff] at hc
        rcases hc with ⟨h1, h2⟩ | ⟨h1, h2⟩ | h1
        all_goals
          go_wp2
          go_round
          case rel => exact ⟨k + 1, by omega, by go_num, H.out⟩
          case measure => simp [RowKit.intOf]; omega
      · have hn := named_no s k hlt (by simpa using hc)
        have hc' : ¬ (((97 : Int) ≤ s[k].toNat ∧ (s[k].toNat : Int) ≤ 122) ∨ ((48 : Int) ≤ s[k].toNat ∧ (s[k].toNat : Int) ≤ 57) ∨ (s[k].toNat : Int) = 45) := by rw [← sign_iff]; exact hc
        have HN := Lib.hid hn
        clear hn hc
        have h45 : (((s[k].toNat : Int)) == 45) = false := by rw [beq_eq_false_iff_ne]; omega
        rcases (show (122 : Int) < s[k].toNat ∨ ((57 : Int) < s[k].toNat ∧ (s[k].toNat : Int) < 97) ∨ (s[k].toNat : Int) < 48 by omega) with h1 | ⟨h1, h2⟩ | h1
        · have d1 : decide ((s[k].toNat : Int) ≤ 122) = false := decide_eq_false (by omega)
          have d2 : decide ((s[k].toNat : Int) ≤ 57) = false := decide_eq_false (by omega)
          clear hc'
          go_wp2
          go_ret
          exact ⟨ret_bool HN.out.symm, rfl⟩
        · have d2 : decide ((s[k].toNat : Int) ≤ 57) = false := decide_eq_false (by omega)
          clear hc'
          go_wp2
          go_ret
          exact ⟨ret_bool HN.out.symm, rfl⟩
        · clear hc'
          go_wp2
          go_ret
          exact ⟨ret_bool HN.out.symm, rfl⟩
    · have HN := Lib.hid (named_yes s (by rw [show s.size = k by omega]; exact A.out))
      go_wp2
      all_goals go_ret
      · exact ⟨ret_bool (by rw [HN.out, decide_eq_true (by omega : 1 ≤ s.size), Bool.true_and]; congr 1; simp; omega), rfl⟩
      · exact ⟨ret_bool (by rw [HN.out, decide_eq_false (by omega : ¬ 1 ≤ s.size)]; rfl), rfl⟩
/-- a pod, as data -/
structure Pd where
  id : ByteArray
  prio : Int
  crit : Bool
  q0 : Int
  q1 : Int
  q2 : Int
  l0 : Int
  l1 : Int
  l2 : Int
  image : ByteArray
  size : Int

abbrev Pd.cells (p : Pd) : Array Value := #[.string p.id, .int .i64 p.prio, .bool p.crit, .int .i64 p.q0, .int .i64 p.q1, .int .i64 p.q2, .int .i64 p.l0, .int .i64 p.l1, .int .i64 p.l2, .string p.image, .int .i64 p.size]

/-- its numbers are int64s, its texts have lengths -/
structure Pd.Wf (p : Pd) : Prop where
  prio : I64 p.prio
  q0 : I64 p.q0
  q1 : I64 p.q1
  q2 : I64 p.q2
  l0 : I64 p.l0
  l1 : I64 p.l1
  l2 : I64 p.l2
  size : I64 p.size
  id : p.id.size ≤ 9223372036854775807
  image : p.image.size ≤ 9223372036854775807

/-- a request and a limit that may not be -/
def bad (q l : Int) : Bool := decide (q < 0) || (decide (l < 0) || (decide (0 < l) && decide (l < q)))
def Pd.amountsOk (p : Pd) : Bool := !bad p.q0 p.l0 && (!bad p.q1 p.l1 && !bad p.q2 p.l2)
def Pd.rest (p : Pd) : Bool := decide (-1073741824 ≤ p.prio) && (decide (p.prio ≤ 1073741824) && decide (0 ≤ p.size))
def Pd.right (p : Pd) : Bool := p.amountsOk && (named p.id.data.toList && (named p.image.data.toList && p.rest))
def Pd.small (p : Pd) : Bool := decide (p.id.size ≤ 60) && decide (p.image.size ≤ 60)

/-- the first k amounts are good -/
def Pd.okTo (p : Pd) (k : Nat) : Bool := (decide (k ≤ 0) || !bad p.q0 p.l0) && ((decide (k ≤ 1) || !bad p.q1 p.l1) && (decide (k ≤ 2) || !bad p.q2 p.l2))

theorem Pd.okTo_zero (p : Pd) : p.okTo 0 = true := by simp [Pd.okTo]
theorem Pd.okTo_one (p : Pd) (h : bad p.q0 p.l0 = false) : p.okTo 1 = true := by simp [Pd.okTo, h]
theorem Pd.okTo_two (p : Pd) (h0 : p.okTo 1 = true) (h : bad p.q1 p.l1 = false) : p.okTo 2 = true := by simp [Pd.okTo, h] at h0 ⊢; exact h0
theorem Pd.okTo_three (p : Pd) (h0 : p.okTo 2 = true) (h : bad p.q2 p.l2 = false) : p.okTo 3 = true := by simp [Pd.okTo, h] at h0 ⊢; exact h0
theorem Pd.ok_of_three (p : Pd) (h : p.okTo 3 = true) : p.amountsOk = true := by simpa [Pd.okTo, Pd.amountsOk] using h
theorem Pd.bad_zero (p : Pd) (h : bad p.q0 p.l0 = true) : p.right = false := by simp [Pd.right, Pd.amountsOk, h]
theorem Pd.bad_one (p : Pd) (h : bad p.q1 p.l1 = true) : p.right = false := by simp [Pd.right, Pd.amountsOk, h]
theorem Pd.bad_two (p : Pd) (h : bad p.q2 p.l2 = true) : p.right = false := by simp [Pd.right, Pd.amountsOk, h]

theorem bad_cases (q l : Int) : (bad q l = true ∧ (q < 0 ∨ (0 ≤ q ∧ l < 0) ∨ (0 ≤ q ∧ 0 < l ∧ l < q))) ∨ (bad q l = false ∧ 0 ≤ q ∧ (l = 0 ∨ (0 < l ∧ q ≤ l))) := by
  unfold bad
  by_cases h1 : q < 0 <;> by_cases h2 : l < 0 <;> by_cases h3 : 0 < l <;> by_cases h4 : l < q <;> simp [h1, h2, h3, h4] <;> omega

theorem idx3_0 (x0 x1 x2 : Value) (w : World) : (Instr.index 42 (.agg #[x0, x1, x2]) (.int .i64 0)).run Tryd.prog w = .ok x0 w := by kernel_rfl
theorem idx3_1 (x0 x1 x2 : Value) (w : World) : (Instr.index 42 (.agg #[x0, x1, x2]) (.int .i64 1)).run Tryd.prog w = .ok x1 w := by kernel_rfl
theorem idx3_2 (x0 x1 x2 : Value) (w : World) : (Instr.index 42 (.agg #[x0, x1, x2]) (.int .i64 2)).run Tryd.prog w = .ok x2 w := by kernel_rfl
attribute [go_sem] idx3_0 idx3_1 idx3_2

theorem small_any (p : Pd) (w : World) :
    Calls Tryd.prog 21 #[.agg p.cells] w fun e w' => e = .returned (.bool p.small) ∧ Below w.heap.size w w' := by
  by_cases h : p.id.size ≤ 60
  · have hs : p.small = decide (p.image.size ≤ 60) := by unfold Pd.small; simp [h]
    have HS := Lib.hid hs
    clear hs
    go_enter Tryd.func21, Tryd.ntmps21
    go_wp2
    go_ret
    refine ⟨ret_bool ?_, (Below.refl _ _).alloc (Nat.le_refl _) _⟩
    rw [HS.out]; simp; omega
  · have hs : p.small = false := by unfold Pd.small; simp [h]
    have HS := Lib.hid hs
    clear hs
    go_enter Tryd.func21, Tryd.ntmps21
    go_wp2
    go_ret
    exact ⟨ret_bool HS.out.symm, (Below.refl _ _).alloc (Nat.le_refl _) _⟩

set_option maxHeartbeats 4000000 in
theorem refRight_any (p : Pd) (w : World) (hp : p.Wf) :
    Calls Tryd.prog 22 #[.agg p.cells] w fun e w' => e = .returned (.bool p.right) ∧ Below w.heap.size w w' := by
  go_enter Tryd.func22, Tryd.ntmps22
  go_wp2
  go_loopw [3] (fun t wr => ∃ (k n : Nat), k ≤ 3 ∧ t = .int .i64 k ∧ p.okTo k = true ∧ wr = (w.alloc (.cells p.cells 44)).drewN n) (fun t _ => 3 - (intOf t).toNat)
  case atStart => exact ⟨0, 0, by omega, rfl, p.okTo_zero, rfl⟩
  case round =>
    obtain ⟨k, n, hk, rfl, hok, rfl⟩ := hrel
    have HO := Lib.hid hok
    clear hok
    obtain rfl | rfl | rfl | rfl : k = 0 ∨ k = 1 ∨ k = 2 ∨ k = 3 := by omega
    · rcases bad_cases p.q0 p.l0 with ⟨hb, h | ⟨h1, h2⟩ | ⟨h1, h2, h3⟩⟩ | ⟨hb, h0, h | ⟨h1, h2⟩⟩
      · have d0 : decide (p.q0 < 0) = true := decide_eq_true h
        have HB := Lib.hid (p.bad_zero hb)
        clear hb h
        go_wp2_with fail
        go_quiet (fail)
        go_wp2
        go_ret
        exact ⟨ret_bool HB.out.symm, below_drewN (below_drewN ((Below.refl _ _).alloc (Nat.le_refl _) _) _) _⟩
      · have d0 : decide (p.q0 < 0) = false := decide_eq_false (by omega)
        have d1 : decide (p.l0 < 0) = true := decide_eq_true h2
        have HB := Lib.hid (p.bad_zero hb)
        clear hb h1 h2
        go_wp2_with fail
        go_quiet (fail)
        go_wp2
        go_ret
        exact ⟨ret_bool HB.out.symm, below_drewN (below_drewN ((Below.refl _ _).alloc (Nat.le_refl _) _) _) _⟩
      · have d0 : decide (p.q0 < 0) = false := decide_eq_false (by omega)
        have d1 : decide (p.l0 < 0) = false := decide_eq_false (by omega)
        have d2 : (p.l0 != 0) = true := by rw [bne_iff_ne]; omega
        have d3 : decide (p.l0 < p.q0) = true := decide_eq_true h3
        have HB := Lib.hid (p.bad_zero hb)
        clear hb h1 h2 h3
        go_wp2_with fail
        go_quiet (fail)
        go_wp2
        go_ret
        exact ⟨ret_bool HB.out.symm, below_drewN (below_drewN ((Below.refl _ _).alloc (Nat.le_refl _) _) _) _⟩
      · have d0 : decide (p.q0 < 0) = false := decide_eq_false (by omega)
        have d1 : decide (p.l0 < 0) = false := decide_eq_false (by omega)
        have d2 : (p.l0 != 0) = false := by rw [h]; rfl
        have HB := Lib.hid (p.okTo_one hb)
        clear hb h0 h
        go_wp2_with fail
        go_quiet (fail)
        go_wp2
        go_roundw
        case rel => exact ⟨1, _, by omega, rfl, HB.out, rfl⟩
        case measure => simp [intOf]
      · have d0 : decide (p.q0 < 0) = false := decide_eq_false (by omega)
        have d1 : decide (p.l0 < 0) = false := decide_eq_false (by omega)
        have d2 : (p.l0 != 0) = true := by rw [bne_iff_ne]; omega
        have d3 : decide (p.l0 < p.q0) = false := decide_eq_false (by omega)
        have HB := Lib.hid (p.okTo_one hb)
        clear hb h0 h1 h2
        go_wp2_with fail
        go_quiet (fail)
        go_wp2
        go_roundw
        case rel => exact ⟨1, _, by omega, rfl, HB.out, rfl⟩
        case measure => simp [intOf]
    · rcases bad_cases p.q1 p.l1 with ⟨hb, h | ⟨h1, h2⟩ | ⟨h1, h2, h3⟩⟩ | ⟨hb, h0, h | ⟨h1, h2⟩⟩
      · have d0 : decide (p.q1 < 0) = true := decide_eq_true h
        have HB := Lib.hid (p.bad_one hb)
        clear hb h
        go_wp2_with fail
        go_quiet (fail)
        go_wp2
        go_ret
        exact ⟨ret_bool HB.out.symm, below_drewN (below_drewN ((Below.refl _ _).alloc (Nat.le_refl _) _) _) _⟩
      · have d0 : decide (p.q1 < 0) = false := decide_eq_false (by omega)
        have d1 : decide (p.l1 < 0) = true := decide_eq_true h2
        have HB := Lib.hid (p.bad_one hb)
        clear hb h1 h2
        go_wp2_with fail
        go_quiet (fail)
        go_wp2
        go_ret
        exact ⟨ret_bool HB.out.symm, below_drewN (below_drewN ((Below.refl _ _).alloc (Nat.le_refl _) _) _) _⟩
      · have d0 : decide (p.q1 < 0) = false := decide_eq_false (by omega)
        have d1 : decide (p.l1 < 0) = false := decide_eq_false (by omega)
        have d2 : (p.l1 != 0) = true := by rw [bne_iff_ne]; omega
        have d3 : decide (p.l1 < p.q1) = true := decide_eq_true h3
        have HB := Lib.hid (p.bad_one hb)
        clear hb h1 h2 h3
        go_wp2_with fail
        go_quiet (fail)
        go_wp2
        go_ret
        exact ⟨ret_bool HB.out.symm, below_drewN (below_drewN ((Below.refl _ _).alloc (Nat.le_refl _) _) _) _⟩
      · have d0 : decide (p.q1 < 0) = false := decide_eq_false (by omega)
        have d1 : decide (p.l1 < 0) = false := decide_eq_false (by omega)
        have d2 : (p.l1 != 0) = false := by rw [h]; rfl
        have HB := Lib.hid (p.okTo_two HO.out hb)
        clear hb h0 h
        go_wp2_with fail
        go_quiet (fail)
        go_wp2
        go_roundw
        case rel => exact ⟨2, _, by omega, rfl, HB.out, rfl⟩
        case measure => simp [intOf]
      · have d0 : decide (p.q1 < 0) = false := decide_eq_false (by omega)
        have d1 : decide (p.l1 < 0) = false := decide_eq_false (by omega)
        have d2 : (p.l1 != 0) = true := by rw [bne_iff_ne]; omega
        have d3 : decide (p.l1 < p.q1) = false := decide_eq_false (by omega)
        have HB := Lib.hid (p.okTo_two HO.out hb)
        clear hb h0 h1 h2
        go_wp2_with fail
        go_quiet (fail)
        go_wp2
        go_roundw
        case rel => exact ⟨2, _, by omega, rfl, HB.out, rfl⟩
        case measure => simp [intOf]
    · rcases bad_cases p.q2 p.l2 with ⟨hb, h | ⟨h1, h2⟩ | ⟨h1, h2, h3⟩⟩ | ⟨hb, h0, h | ⟨h1, h2⟩⟩
      · have d0 : decide (p.q2 < 0) = true := decide_eq_true h
        have HB := Lib.hid (p.bad_two hb)
        clear hb h
        go_wp2_with fail
        go_quiet (fail)
        go_wp2
        go_ret
        exact ⟨ret_bool HB.out.symm, below_drewN (below_drewN ((Below.refl _ _).alloc (Nat.le_refl _) _) _) _⟩
      · have d0 : decide (p.q2 < 0) = false := decide_eq_false (by omega)
        have d1 : decide (p.l2 < 0) = true := decide_eq_true h2
        have HB := Lib.hid (p.bad_two hb)
        clear hb h1 h2
        go_wp2_with fail
        go_quiet (fail)
        go_wp2
        go_ret
        exact ⟨ret_bool HB.out.symm, below_drewN (below_drewN ((Below.refl _ _).alloc (Nat.le_refl _) _) _) _⟩
      · have d0 : decide (p.q2 < 0) = false := decide_eq_false (by omega)
        have d1 : decide (p.l2 < 0) = false := decide_eq_false (by omega)
        have d2 : (p.l2 != 0) = true := by rw [bne_iff_ne]; omega
        have d3 : decide (p.l2 < p.q2) = true := decide_eq_true h3
        have HB := Lib.hid (p.bad_two hb)
        clear hb h1 h2 h3
        go_wp2_with fail
        go_quiet (fail)
        go_wp2
        go_ret
        exact ⟨ret_bool HB.out.symm, below_drewN (below_drewN ((Below.refl _ _).alloc (Nat.le_refl _) _) _) _⟩
      · have d0 : decide (p.q2 < 0) = false := decide_eq_false (by omega)
        have d1 : decide (p.l2 < 0) = false := decide_eq_false (by omega)
        have d2 : (p.l2 != 0) = false := by rw [h]; rfl
        have HB := Lib.hid (p.okTo_three HO.out hb)
        clear hb h0 h
        go_wp2_with fail
        go_quiet (fail)
        go_wp2
        go_roundw
        case rel => exact ⟨3, _, by omega, rfl, HB.out, rfl⟩
        case measure => simp [intOf]
      · have d0 : decide (p.q2 < 0) = false := decide_eq_false (by omega)
        have d1 : decide (p.l2 < 0) = false := decide_eq_false (by omega)
        have d2 : (p.l2 != 0) = true := by rw [bne_iff_ne]; omega
        have d3 : decide (p.l2 < p.q2) = false := decide_eq_false (by omega)
        have HB := Lib.hid (p.okTo_three HO.out hb)
        clear hb h0 h1 h2
        go_wp2_with fail
        go_quiet (fail)
        go_wp2
        go_roundw
        case rel => exact ⟨3, _, by omega, rfl, HB.out, rfl⟩
        case measure => simp [intOf]
    · have HA := Lib.hid (p.ok_of_three HO.out)
      clear HO hk
      have hid := hp.id
      have himg := hp.image
      cases hn : named p.id.data.toList
      · have HR : Hid (p.right = false) := by show p.right = false; simp [Pd.right, hn]
        go_wp2_with (go_at_call 39; refine (refNamed_any _ _ hid).mono ?_; rintro e w' ⟨rfl, rfl⟩)
        go_ret
        exact ⟨ret_bool HR.out.symm, below_drewN ((Below.refl _ _).alloc (Nat.le_refl _) _) _⟩
      · cases hm : named p.image.data.toList
        · have HR : Hid (p.right = false) := by show p.right = false; simp [Pd.right, hm]
          have HN := Lib.hid hn
          have HM := Lib.hid hm
          clear hn hm
          go_wp2_with fail
          refine (refNamed_any _ _ hid).mono ?_; rintro e w1 ⟨rfl, rfl⟩
          rw [HN.out]
          go_wp2_with fail
          refine (refNamed_any _ _ himg).mono ?_; rintro e w2 ⟨rfl, rfl⟩
          rw [HM.out]
          go_wp2_with fail
          go_ret
          exact ⟨ret_bool HR.out.symm, below_drewN ((Below.refl _ _).alloc (Nat.le_refl _) _) _⟩
        · have HR : Hid (p.right = p.rest) := by
            show p.right = p.rest
            simp [Pd.right, hn, hm, HA.out]
          have HN := Lib.hid hn
          have HM := Lib.hid hm
          clear hn hm
          rcases (show p.prio < -1073741824 ∨ 1073741824 < p.prio ∨ (-1073741824 ≤ p.prio ∧ p.prio ≤ 1073741824) by omega) with h | h | ⟨h1, h2⟩
          · have HX : Hid (p.rest = false) := by show p.rest = false; unfold Pd.rest; rw [decide_eq_false (by omega)]; rfl
            go_wp2_with fail
            refine (refNamed_any _ _ hid).mono ?_; rintro e w1 ⟨rfl, rfl⟩
            rw [HN.out]
            go_wp2_with fail
            refine (refNamed_any _ _ himg).mono ?_; rintro e w2 ⟨rfl, rfl⟩
            rw [HM.out]
            go_wp2_with fail
            go_ret
            exact ⟨ret_bool (HR.out.trans HX.out).symm, below_drewN ((Below.refl _ _).alloc (Nat.le_refl _) _) _⟩
          · have HX : Hid (p.rest = false) := by show p.rest = false; unfold Pd.rest; rw [decide_eq_false (by omega : ¬ p.prio ≤ 1073741824)]; simp
            go_wp2_with fail
            refine (refNamed_any _ _ hid).mono ?_; rintro e w1 ⟨rfl, rfl⟩
            rw [HN.out]
            go_wp2_with fail
            refine (refNamed_any _ _ himg).mono ?_; rintro e w2 ⟨rfl, rfl⟩
            rw [HM.out]
            go_wp2_with fail
            go_ret
            exact ⟨ret_bool (HR.out.trans HX.out).symm, below_drewN ((Below.refl _ _).alloc (Nat.le_refl _) _) _⟩
          · have HX : Hid (p.rest = decide (0 ≤ p.size)) := by show p.rest = _; unfold Pd.rest; rw [decide_eq_true h1, decide_eq_true h2]; rfl
            go_wp2_with fail
            refine (refNamed_any _ _ hid).mono ?_; rintro e w1 ⟨rfl, rfl⟩
            rw [HN.out]
            go_wp2_with fail
            refine (refNamed_any _ _ himg).mono ?_; rintro e w2 ⟨rfl, rfl⟩
            rw [HM.out]
            go_wp2_with fail
            go_ret
            exact ⟨ret_bool (HR.out.trans HX.out).symm, below_drewN ((Below.refl _ _).alloc (Nat.le_refl _) _) _⟩
end Go.Proofs.YtakgblgbfbpmoaaDoor

namespace Go.Proofs.YtakgblgbfbpmoaaDoor
open Go.RowKit

def encP : Enc Pd 11 := ⟨fun p => p.cells.toList, fun _ => rfl, fun p u hu => by simp at hu; rcases hu with h | h | h | h | h | h | h | h | h | h | h <;> subst h <;> rfl, by decide⟩
theorem infoPod : (Tryd.prog.info? 44).map (·.size) = some 11 := by kernel_rfl
theorem Rds.range {w : World} {l : List Pd} {b off k : Nat} (hk : k < l.length) (hc : ∀ j u, (encP.enc l[k])[j]? = some u → w.cell? ⟨b, off + (k * 11 + j), none⟩ = some u) : w.rangeAt b (off + k * 11) l[k].cells.toList := fun j v hv => by
  rw [Nat.add_assoc]; exact hc j v hv
abbrev zeroPod : Array Value := #[.string ⟨#[]⟩, .int .i64 0, .bool false, .int .i64 0, .int .i64 0, .int .i64 0, .int .i64 0, .int .i64 0, .int .i64 0, .string ⟨#[]⟩, .int .i64 0]
theorem zeroPod_one : (zeroPod.all (·.oneCell')) = true := by simp [Value.oneCell']
theorem cells_one (p : Pd) : (p.cells.all (·.oneCell')) = true := by simp [Value.oneCell']
end Go.Proofs.YtakgblgbfbpmoaaDoor

namespace Go.Proofs.YtakgblgbfbpmoaaDoor
open Go.RowKit

/-- three sums -/
structure S3 where
  a : Int
  b : Int
  c : Int
def S3.add (s : S3) (p : Pd) : S3 := ⟨satAdd s.a p.q0, satAdd s.b p.q1, satAdd s.c p.q2⟩
def sumsOf (l : List Pd) : S3 := l.foldl S3.add ⟨0, 0, 0⟩
theorem sumsOf_snoc (l : List Pd) (k : Nat) (h : k < l.length) : sumsOf (l.take (k + 1)) = (sumsOf (l.take k)).add l[k] := by
  unfold sumsOf
  rw [List.take_succ_eq_append_getElem h, List.foldl_append]
  rfl
def S3.part (s : S3) (p : Pd) : Nat → S3
  | 0 => s
  | 1 => ⟨satAdd s.a p.q0, s.b, s.c⟩
  | 2 => ⟨satAdd s.a p.q0, satAdd s.b p.q1, s.c⟩
  | _ => s.add p
def S3.ok (s : S3) : Prop := I64 s.a ∧ I64 s.b ∧ I64 s.c
theorem S3.ok_add (s : S3) (p : Pd) (hs : s.ok) (hp : p.Wf) : (s.add p).ok := ⟨satAdd_I64 _ _ hs.1 hp.q0, satAdd_I64 _ _ hs.2.1 hp.q1, satAdd_I64 _ _ hs.2.2 hp.q2⟩
theorem sumsOf_ok (l : List Pd) (h : ∀ p ∈ l, p.Wf) : (sumsOf l).ok := by
  unfold sumsOf
  have key : ∀ (l : List Pd) (s : S3), s.ok → (∀ p ∈ l, p.Wf) → (l.foldl S3.add s).ok := by
    intro l
    induction l with
    | nil => intro s hs _; exact hs
    | cons p l ih => intro s hs h; exact ih _ (S3.ok_add s p hs (h p (by simp))) fun q hq => h q (by simp [hq])
  exact key l _ ⟨by show I64 0; unfold I64; omega, by show I64 0; unfold I64; omega, by show I64 0; unfold I64; omega⟩ h

abbrev S3.cells (s : S3) : Array Value := #[.int .i64 s.a, .int .i64 s.b, .int .i64 s.c]

theorem info3 : (Tryd.prog.info? 42).map (·.size) = some 3 := by kernel_rfl
theorem s3_one (s : S3) : (s.cells.all (·.oneCell')) = true := by simp [Value.oneCell']

set_option maxHeartbeats 2000000 in
theorem sums_any (l : List Pd) (A : Option Addr) (c : Nat) (w : World) (hr : Rds w encP A l) (hwf : ∀ p ∈ l, p.Wf) (hn : l.length ≤ 140737488355328) :
    Calls Tryd.prog 57 #[.slice A l.length c] w fun e w' => e = .returned (.agg (sumsOf l).cells) ∧ Below w.heap.size w w' := by
  have HR := Lib.hid hr
  have HW := Lib.hid hwf
  clear hr hwf
  go_enter Tryd.func57, Tryd.ntmps57
  go_wp2_with fail
  have z0 : (w.alloc (.cells (S3.mk 0 0 0).cells 42)).heap.size = w.heap.size + 1 := by simp
  have HB0 : Hid (Blk ((w.alloc (.cells (S3.mk 0 0 0).cells 42)).alloc (.cells (S3.mk 0 0 0).cells 42)) w.heap.size 42 (S3.mk 0 0 0).cells ∧ Blk ((w.alloc (.cells (S3.mk 0 0 0).cells 42)).alloc (.cells (S3.mk 0 0 0).cells 42)) (w.heap.size + 1) 42 (S3.mk 0 0 0).cells ∧ Below w.heap.size w ((w.alloc (.cells (S3.mk 0 0 0).cells 42)).alloc (.cells (S3.mk 0 0 0).cells 42))) :=
    ⟨(Blk.new _ _ _).alloc _, by rw [← z0]; exact Blk.new _ _ _, ((Below.refl _ _).alloc (Nat.le_refl _) _).alloc (by simp) _⟩
  clear z0
  go_loopw [10] (fun i wr => ∃ k : Nat, k ≤ l.length ∧ i = .int .i64 k ∧ Blk wr w.heap.size 42 (S3.mk 0 0 0).cells ∧ Blk wr (w.heap.size + 1) 42 (sumsOf (l.take k)).cells ∧ Below w.heap.size w wr) (fun i _ => l.length - (intOf i).toNat)
  case atStart => exact ⟨0, by omega, rfl, HB0.out.1, HB0.out.2.1, HB0.out.2.2⟩
  case round =>
    clear HB0
    obtain ⟨k, hk, rfl, hR, hS, hB⟩ := hrel
    by_cases hlt : k < l.length
    · obtain ⟨b, off, rfl, hb, hcell⟩ := HR.out.at_ hlt
      have dk : decide ((k : Int) < (l.length : Int)) = true := decide_eq_true (by omega)
      have dk2 : (k : Int) < (l.length : Int) := by omega
      have hrange : wr.rangeAt b (off + k * 11) l[k].cells.toList := fun j v hv => (hB.cell (p := ⟨b, off + k * 11 + j, none⟩) hb).trans (Rds.range hlt hcell j v hv)
      have hsn := sumsOf_snoc l k hlt
      have hpw := HW.out l[k] (List.getElem_mem hlt)
      have hsw := sumsOf_ok (l.take k) fun p hp => HW.out p (List.mem_of_mem_take hp)
      generalize l[k] = p at *
      generalize sumsOf (l.take k) = s at *
      have H := Lib.hid (And.intro hR (And.intro hS (And.intro hB (And.intro hrange (And.intro hsn hsw)))))
      have HPW := Lib.hid hpw
      clear hR hS hB hcell hrange hsn hpw hsw
      go_wp2_with (first | (refine wpList_load_mid rfl 44 (.tmp 12) rfl b (off + k * 11) rfl p.cells.toList _ H.out.2.2.2.1 Tryd.underlying44 rfl infoPod ?_) | (refine wl_store_blk rfl 44 (.tmp 5) (.tmp 13) rfl wr.heap.size 44 zeroPod p.cells rfl rfl (Blk.new _ _ _) rfl infoPod (cells_one p) ?_; intro w5 hQ5 hg5 hs5; have q3 : w5.cell? ⟨wr.heap.size, 3, none⟩ = some (.int .i64 p.q0) := hQ5.cell 3; have q4 : w5.cell? ⟨wr.heap.size, 4, none⟩ = some (.int .i64 p.q1) := hQ5.cell 4; have q5 : w5.cell? ⟨wr.heap.size, 5, none⟩ = some (.int .i64 p.q2) := hQ5.cell 5; have HG := Lib.hid hg5; clear hg5 hQ5))
      have hR5 : Blk w5 w.heap.size 42 (S3.mk 0 0 0).cells := (H.out.1.alloc _).grown HG.out (by have := H.out.1.lt; intro e; injection e with e; omega)
      have hS5 : Blk w5 (w.heap.size + 1) 42 s.cells := (H.out.2.1.alloc _).grown HG.out (by have := H.out.2.1.lt; intro e; injection e with e; omega)
      have hB5 : Below w.heap.size w w5 := (H.out.2.2.1.alloc H.out.2.2.1.size _).grown HG.out (by have := H.out.2.2.1.size; simp; omega) (by intro g hg; injection hg with hg; have := H.out.2.2.1.size; omega)
      have HI := Lib.hid (And.intro hR5 (And.intro hS5 hB5))
      clear hR5 hS5 hB5 HG hs5 q3 q4 q5
      go_loopw [16] (fun i wq => ∃ j : Nat, j ≤ 3 ∧ i = .int .i64 j ∧ Blk wq w.heap.size 42 (S3.mk 0 0 0).cells ∧ Blk wq (w.heap.size + 1) 42 (s.part p j).cells ∧ Below w.heap.size w wq) (fun i _ => 3 - (intOf i).toNat)
      case atStart => exact ⟨0, by omega, rfl, HI.out.1, HI.out.2.1, HI.out.2.2⟩
      case round =>
        clear HI
        obtain ⟨j, hj, rfl, hR, hS, hB⟩ := hrel
        obtain rfl | rfl | rfl | rfl : j = 0 ∨ j = 1 ∨ j = 2 ∨ j = 3 := by omega
        · have cs : wr.cell? ⟨w.heap.size + 1, 0, none⟩ = some (.int .i64 s.a) := hS.cell 0
          have fs : wr.frozen? ⟨w.heap.size + 1, 0, none⟩ = false := hS.frozen 0
          have hR1 := hR.far (p := ⟨w.heap.size + 1, 0, none⟩) (by simp) (.int .i64 (satAdd s.a p.q0))
          have hS1 : Blk (wr.setCell ⟨w.heap.size + 1, 0, none⟩ (.int .i64 (satAdd s.a p.q0))) (w.heap.size + 1) 42 (s.part p 1).cells := hS.set_ 0 _
          have hB1 := hB.setCell (p := ⟨w.heap.size + 1, 0, none⟩) (by simp) (.int .i64 (satAdd s.a p.q0))
          have HH := Lib.hid (And.intro hR1 (And.intro hS1 hB1))
          have hI := H.out.2.2.2.2.2.1
          clear hR hS hB hR1 hS1 hB1
          go_wp2_with fail
          refine (add_any _ _ _ hI HPW.out.q0).mono ?_; rintro e w6 ⟨rfl, rfl⟩
          go_wp2_with fail
          go_roundw
          case rel => exact ⟨1, by omega, rfl, HH.out.1, HH.out.2.1, HH.out.2.2⟩
          case measure => simp [intOf]
        · have cs : wr.cell? ⟨w.heap.size + 1, 1, none⟩ = some (.int .i64 s.b) := hS.cell 1
          have fs : wr.frozen? ⟨w.heap.size + 1, 1, none⟩ = false := hS.frozen 1
          have hR1 := hR.far (p := ⟨w.heap.size + 1, 1, none⟩) (by simp) (.int .i64 (satAdd s.b p.q1))
          have hS1 : Blk (wr.setCell ⟨w.heap.size + 1, 1, none⟩ (.int .i64 (satAdd s.b p.q1))) (w.heap.size + 1) 42 (s.part p 2).cells := hS.set_ 1 _
          have hB1 := hB.setCell (p := ⟨w.heap.size + 1, 1, none⟩) (by simp) (.int .i64 (satAdd s.b p.q1))
          have HH := Lib.hid (And.intro hR1 (And.intro hS1 hB1))
          have hI := H.out.2.2.2.2.2.2.1
          clear hR hS hB hR1 hS1 hB1
          go_wp2_with fail
          refine (add_any _ _ _ hI HPW.out.q1).mono ?_; rintro e w6 ⟨rfl, rfl⟩
          go_wp2_with fail
          go_roundw
          case rel => exact ⟨2, by omega, rfl, HH.out.1, HH.out.2.1, HH.out.2.2⟩
          case measure => simp [intOf]
        · have cs : wr.cell? ⟨w.heap.size + 1, 2, none⟩ = some (.int .i64 s.c) := hS.cell 2
          have fs : wr.frozen? ⟨w.heap.size + 1, 2, none⟩ = false := hS.frozen 2
          have hR1 := hR.far (p := ⟨w.heap.size + 1, 2, none⟩) (by simp) (.int .i64 (satAdd s.c p.q2))
          have hS1 : Blk (wr.setCell ⟨w.heap.size + 1, 2, none⟩ (.int .i64 (satAdd s.c p.q2))) (w.heap.size + 1) 42 (s.part p 3).cells := hS.set_ 2 _
          have hB1 := hB.setCell (p := ⟨w.heap.size + 1, 2, none⟩) (by simp) (.int .i64 (satAdd s.c p.q2))
          have HH := Lib.hid (And.intro hR1 (And.intro hS1 hB1))
          have hI := H.out.2.2.2.2.2.2.2
          clear hR hS hB hR1 hS1 hB1
          go_wp2_with fail
          refine (add_any _ _ _ hI HPW.out.q2).mono ?_; rintro e w6 ⟨rfl, rfl⟩
          go_wp2_with fail
          go_roundw
          case rel => exact ⟨3, by omega, rfl, HH.out.1, HH.out.2.1, HH.out.2.2⟩
          case measure => simp [intOf]
        · have HH := Lib.hid (And.intro hR (And.intro hS hB))
          have hsn := Lib.hid H.out.2.2.2.2.1
          clear hR hS hB
          go_wp2_with fail
          go_roundw
          case rel => exact ⟨k + 1, by omega, by go_num, HH.out.1, by rw [hsn.out]; exact HH.out.2.1, HH.out.2.2⟩
          case measure => simp [intOf]; omega
    · obtain rfl : k = l.length := by omega
      rw [List.take_length] at hS
      have dk : decide ((l.length : Int) < (l.length : Int)) = false := by simp
      have b0 := hS.cell 0
      have b1 := hS.cell 1
      have b2 := hS.cell 2
      have c0 : wr.cell? ⟨w.heap.size + 1, 0, none⟩ = some (.int .i64 (sumsOf l).a) := hS.cell 0
      have c1 : wr.cell? ⟨w.heap.size + 1, 1, none⟩ = some (.int .i64 (sumsOf l).b) := hS.cell 1
      have c2 : wr.cell? ⟨w.heap.size + 1, 2, none⟩ = some (.int .i64 (sumsOf l).c) := hS.cell 2
      clear b0 b1 b2
      have H := Lib.hid (And.intro hR hB)
      clear hR hB hS
      go_wp2_with (refine wl_store_blk rfl 42 (.tmp 2) (.tmp 29) rfl w.heap.size 42 (S3.mk 0 0 0).cells (sumsOf l).cells rfl rfl H.out.1 rfl info3 (s3_one _) ?_; intro w5 hR5 hg5 hs5)
      have hl5 := hR5.cell
      exact bodyPost_ret (v := .agg (sumsOf l).cells) (by simp [results, Tryd.results57, go_sem, hl5]) rfl ⟨rfl, H.out.2.grown hg5 H.out.2.size (by intro k hk; cases hk; exact Nat.le_refl _)⟩

/-! ### the order does not matter -/
theorem satAdd_comm3 (a x y : Int) : satAdd (satAdd a x) y = satAdd (satAdd a y) x := by
  unfold satAdd nat0 most
  repeat' split
  all_goals omega
theorem S3.add_comm (s : S3) (p q : Pd) : (s.add p).add q = (s.add q).add p := by
  unfold S3.add
  simp only [satAdd_comm3 _ p.q0 q.q0, satAdd_comm3 _ p.q1 q.q1, satAdd_comm3 _ p.q2 q.q2]
theorem foldl_perm {α β : Type} {f : β → α → β} (hf : ∀ b x y, f (f b x) y = f (f b y) x) {l m : List α} (h : l.Perm m) : ∀ b, l.foldl f b = m.foldl f b := by
  induction h with
  | nil => intro b; rfl
  | cons x _ ih => intro b; exact ih _
  | swap x y l => intro b; simp only [List.foldl_cons]; rw [hf]
  | trans _ _ ih1 ih2 => intro b; exact (ih1 b).trans (ih2 b)
theorem sumsOf_perm {l m : List Pd} (h : l.Perm m) : sumsOf l = sumsOf m := foldl_perm S3.add_comm h _
end Go.Proofs.YtakgblgbfbpmoaaDoor

namespace Go.Proofs.YtakgblgbfbpmoaaDoor
open Go.RowKit

/-- may v go for p? -/
def mayV (p v : Pd) : Bool := p.crit && (!v.crit && decide (v.prio < p.prio))
theorem full_any {n : Int} {b : Bool} (hb : (n == most) = b) (w : World) : Calls Tryd.prog 58 #[.int .i64 n] w fun e w' => e = .returned (.bool b) ∧ w = w' := by
  have HB := Lib.hid hb
  clear hb
  go_enter Tryd.func58, Tryd.ntmps58
  go_wp2_with fail
  go_ret
  exact ⟨ret_bool HB.out, rfl⟩
/-- does a sum fit in a room? -/
def fit1 (r n : Int) : Bool := !(n == most) && !decide (r < n)
def S3.fits (room s : S3) : Bool := fit1 room.a s.a && (fit1 room.b s.b && fit1 room.c s.c)
def fitsB (room : S3) (l : List Pd) : Bool := room.fits (sumsOf l)
/-- the first j fit -/
def S3.fitTo (room s : S3) : Nat → Prop
  | 0 => True
  | 1 => fit1 room.a s.a = true
  | 2 => fit1 room.a s.a = true ∧ fit1 room.b s.b = true
  | _ => fit1 room.a s.a = true ∧ fit1 room.b s.b = true ∧ fit1 room.c s.c = true
theorem fit1_full {r n : Int} (h : (n == most) = true) : fit1 r n = false := by unfold fit1; rw [h]; rfl
theorem fit1_over {r n : Int} (h : decide (r < n) = true) : fit1 r n = false := by unfold fit1; rw [h]; simp
theorem fit1_ok {r n : Int} (h : (n == most) = false) (h2 : decide (r < n) = false) : fit1 r n = true := by unfold fit1; rw [h, h2]; rfl
theorem fits_no0 {room s : S3} (h : fit1 room.a s.a = false) : room.fits s = false := by unfold S3.fits; rw [h]; rfl
theorem fits_no1 {room s : S3} (h : fit1 room.b s.b = false) : room.fits s = false := by unfold S3.fits; rw [h]; simp
theorem fits_no2 {room s : S3} (h : fit1 room.c s.c = false) : room.fits s = false := by unfold S3.fits; rw [h]; simp
theorem fits_yes {room s : S3} (h : room.fitTo s 3) : room.fits s = true := by obtain ⟨h1, h2, h3⟩ := h; unfold S3.fits; rw [h1, h2, h3]; rfl
set_option maxHeartbeats 4000000 in
theorem vfits_any (room : S3) (l : List Pd) (A : Option Addr) (c : Nat) (w : World) (hr : Rds w encP A l) (hwf : ∀ p ∈ l, p.Wf) (hn : l.length ≤ 140737488355328) :
    Calls Tryd.prog 45 #[.agg #[.int .i64 room.a, .int .i64 room.b, .int .i64 room.c], .slice A l.length c] w fun e w' => e = .returned (.bool (fitsB room l)) ∧ Below w.heap.size w w' := by
  have hB0 : Below w.heap.size w (w.alloc (.cells #[.int .i64 room.a, .int .i64 room.b, .int .i64 room.c] 42)) := (Below.refl _ _).alloc (Nat.le_refl _) _
  have HP := Lib.hid (And.intro (Blk.new w 42 #[.int .i64 room.a, .int .i64 room.b, .int .i64 room.c]) (And.intro (hr.below hB0) hB0))
  have HW := Lib.hid hwf
  clear hr hwf hB0
  unfold fitsB
  obtain ⟨s, hs⟩ : ∃ s, sumsOf l = s := ⟨_, rfl⟩
  have HS := Lib.hid (fun (W : World) (h : Rds W encP A l) => hs ▸ sums_any l A c W h HW.out hn)
  rw [hs]
  clear hs
  go_enter Tryd.func45, Tryd.ntmps45
  go_wp2_with fail
  refine (HS.out _ HP.out.2.1).mono ?_; rintro e w1 ⟨rfl, hb⟩
  have HP1 := Lib.hid (And.intro (HP.out.1.belowAll hb) (HP.out.2.2.trans (hb.mono HP.out.2.2.size)))
  clear hb HP HS HW
  have r0 : w1.cell? ⟨w.heap.size, 0, none⟩ = some (.int .i64 room.a) := HP1.out.1.cell 0
  have r1 : w1.cell? ⟨w.heap.size, 1, none⟩ = some (.int .i64 room.b) := HP1.out.1.cell 1
  have r2 : w1.cell? ⟨w.heap.size, 2, none⟩ = some (.int .i64 room.c) := HP1.out.1.cell 2
  have i0 := fun (w : World) => idx3_0 (.int .i64 s.a) (.int .i64 s.b) (.int .i64 s.c) w
  have i1 := fun (w : World) => idx3_1 (.int .i64 s.a) (.int .i64 s.b) (.int .i64 s.c) w
  have i2 := fun (w : World) => idx3_2 (.int .i64 s.a) (.int .i64 s.b) (.int .i64 s.c) w
  go_wp2_with fail
  go_loop [9] (fun ii => ∃ j : Nat, j ≤ 3 ∧ ii = .int .i64 j ∧ room.fitTo s j) (fun ii => 3 - (intOf ii).toNat)
  case atStart => exact ⟨0, by omega, rfl, trivial⟩
  case round =>
    obtain ⟨j, hj, rfl, hto⟩ := hrel
    have HT := Lib.hid hto
    clear hto
    obtain rfl | rfl | rfl | rfl : j = 0 ∨ j = 1 ∨ j = 2 ∨ j = 3 := by omega
    · cases hf : (s.a == most)
      · cases hr : decide (room.a < s.a)
        · have HN : Hid (room.fitTo s 1) := fit1_ok hf hr
          have HF := Lib.hid hf
          clear hf
          go_wp2_with fail
          refine (full_any HF.out _).mono ?_; rintro e w2 ⟨rfl, rfl⟩
          go_wp2_with fail
          go_round
          case rel => exact ⟨1, by omega, rfl, HN.out⟩
          case measure => simp [intOf]
        · have HN := Lib.hid (fits_no0 (fit1_over hr) : room.fits s = false)
          have HF := Lib.hid hf
          clear hf
          go_wp2_with fail
          refine (full_any HF.out _).mono ?_; rintro e w2 ⟨rfl, rfl⟩
          go_wp2_with fail
          go_ret
          exact ⟨ret_bool HN.out.symm, HP1.out.2⟩
      · have HN := Lib.hid (fits_no0 (fit1_full (r := room.a) hf) : room.fits s = false)
        have HF := Lib.hid hf
        clear hf
        go_wp2_with fail
        refine (full_any HF.out _).mono ?_; rintro e w2 ⟨rfl, rfl⟩
        go_wp2_with fail
        go_ret
        exact ⟨ret_bool HN.out.symm, HP1.out.2⟩
    · cases hf : (s.b == most)
      · cases hr : decide (room.b < s.b)
        · have HN : Hid (room.fitTo s 2) := ⟨HT.out, fit1_ok hf hr⟩
          have HF := Lib.hid hf
          clear hf
          go_wp2_with fail
          refine (full_any HF.out _).mono ?_; rintro e w2 ⟨rfl, rfl⟩
          go_wp2_with fail
          go_round
          case rel => exact ⟨2, by omega, rfl, HN.out⟩
          case measure => simp [intOf]
        · have HN := Lib.hid (fits_no1 (fit1_over hr) : room.fits s = false)
          have HF := Lib.hid hf
          clear hf
          go_wp2_with fail
          refine (full_any HF.out _).mono ?_; rintro e w2 ⟨rfl, rfl⟩
          go_wp2_with fail
          go_ret
          exact ⟨ret_bool HN.out.symm, HP1.out.2⟩
      · have HN := Lib.hid (fits_no1 (fit1_full (r := room.b) hf) : room.fits s = false)
        have HF := Lib.hid hf
        clear hf
        go_wp2_with fail
        refine (full_any HF.out _).mono ?_; rintro e w2 ⟨rfl, rfl⟩
        go_wp2_with fail
        go_ret
        exact ⟨ret_bool HN.out.symm, HP1.out.2⟩
    · cases hf : (s.c == most)
      · cases hr : decide (room.c < s.c)
        · have HN : Hid (room.fitTo s 3) := ⟨HT.out.1, HT.out.2, fit1_ok hf hr⟩
          have HF := Lib.hid hf
          clear hf
          go_wp2_with fail
          refine (full_any HF.out _).mono ?_; rintro e w2 ⟨rfl, rfl⟩
          go_wp2_with fail
          go_round
          case rel => exact ⟨3, by omega, rfl, HN.out⟩
          case measure => simp [intOf]
        · have HN := Lib.hid (fits_no2 (fit1_over hr) : room.fits s = false)
          have HF := Lib.hid hf
          clear hf
          go_wp2_with fail
          refine (full_any HF.out _).mono ?_; rintro e w2 ⟨rfl, rfl⟩
          go_wp2_with fail
          go_ret
          exact ⟨ret_bool HN.out.symm, HP1.out.2⟩
      · have HN := Lib.hid (fits_no2 (fit1_full (r := room.c) hf) : room.fits s = false)
        have HF := Lib.hid hf
        clear hf
        go_wp2_with fail
        refine (full_any HF.out _).mono ?_; rintro e w2 ⟨rfl, rfl⟩
        go_wp2_with fail
        go_ret
        exact ⟨ret_bool HN.out.symm, HP1.out.2⟩
    · have HN := Lib.hid (fits_yes HT.out)
      go_wp2_with fail
      go_ret
      exact ⟨ret_bool HN.out.symm, HP1.out.2⟩
end Go.Proofs.YtakgblgbfbpmoaaDoor
