/- Pods as data; bilgeref12's Named, Small, Right. -/
import Derived.Test.YtampjkgkiooibaaDoorOrdR
import Derived.WalkKit
import Derived.WalkSpells
import Derived.WalkLawsBesides
import Derived.Lib.Hide
import Derived.BigQuiet
import Derived.Deep.QuietTactic
namespace Go.Proofs.YtampjkgkiooibaaDoor
open Go.RowKit

/-- a sign of a name -/
def sign (c : UInt8) : Bool := (97 ≤ c && c ≤ 122) || ((48 ≤ c && c ≤ 57) || c == 45)
/-- a name -/
def named (l : List UInt8) : Bool := decide (1 ≤ l.length) && decide (l.length ≤ 24) && l.all sign
theorem take_snoc (s : ByteArray) (k : Nat) (h : k < s.size) : s.data.toList.take (k + 1) = s.data.toList.take k ++ [s[k]] := by
  rw [List.take_succ_eq_append_getElem (by simpa using h)]; rfl

/-- one sign's test, in the numbers that the walk shows -/
theorem sign_iff (c : UInt8) : sign c = true ↔ ((97 : Int) ≤ c.toNat ∧ (c.toNat : Int) ≤ 122) ∨ ((48 : Int) ≤ c.toNat ∧ (c.toNat : Int) ≤ 57) ∨ (c.toNat : Int) = 45 := by
  unfold sign
  simp [UInt8.le_iff_toNat_le, ← UInt8.toNat_inj]
  omega

theorem named_of (l : List UInt8) : (decide (1 ≤ l.length) && decide (l.length ≤ 24) && l.all sign) = named l := rfl

theorem named_no (s : ByteArray) (k : Nat) (h : k < s.size) (hs : sign s[k] = false) : named s.data.toList = false := by
  have : s.data.toList.all sign = false := by
    rw [List.all_eq_false]
    exact ⟨s[k], by simp [ByteArray.getElem_eq_getElem_data], by simpa using hs⟩
  unfold named; rw [this]; simp

theorem named_yes (s : ByteArray) (h : (s.data.toList.take s.size).all sign = true) : named s.data.toList = (decide (1 ≤ s.size) && decide (s.size ≤ 24)) := by
  have hl : s.data.toList.length = s.size := rfl
  rw [List.take_of_length_le (by omega)] at h
  unfold named; rw [h, hl]; simp

set_option maxHeartbeats 1000000 in
theorem refNamed_any (s : ByteArray) (w : World) (hs : s.size ≤ 9223372036854775807) :
    Calls Tryd.prog 33 #[.string s] w fun e w' => e = .returned (.bool (named s.data.toList)) ∧ w = w' := by
  go_enter Tryd.func33, Tryd.ntmps33
  go_wp2
  go_loop [3] (fun i => ∃ k : Nat, k ≤ s.size ∧ i = .int .i64 k ∧ (s.data.toList.take k).all sign = true) (fun i => s.size - (RowKit.intOf i).toNat)
  case atStart => exact ⟨0, Nat.zero_le _, rfl, rfl⟩
  case round =>
    obtain ⟨k, hk, rfl, hall⟩ := hrel
    have A := Lib.hid hall
    clear hall
    by_cases hlt : k < s.size
    · by_cases hc : sign s[k] = true
      · have hT := take_snoc s k hlt
        have H : Hid ((s.data.toList.take (k + 1)).all sign = true) := by
          show (s.data.toList.take (k + 1)).all sign = true
          rw [hT, List.all_append, A.out]; simpa using hc
        clear hT
        rw [sign_iff] at hc
        rcases hc with ⟨h1, h2⟩ | ⟨h1, h2⟩ | h1
        all_goals
          go_wp2
          go_round
          case rel => exact ⟨k + 1, by omega, by go_num, H.out⟩
          case measure => simp [RowKit.intOf]; omega
      · have hn := named_no s k hlt (by simpa using hc)
        have hc' : ¬ (((97 : Int) ≤ s[k].toNat ∧ (s[k].toNat : Int) ≤ 122) ∨ ((48 : Int) ≤ s[k].toNat ∧ (s[k].toNat : Int) ≤ 57) ∨ (s[k].toNat : Int) = 45) := by rw [← sign_iff]; exact hc
        have HN := Lib.hid hn
        clear hn hc
        have h45 : (((s[k].toNat : Int)) == 45) = false := by rw [beq_eq_false_iff_ne]; omega
        rcases (show (122 : Int) < s[k].toNat ∨ ((57 : Int) < s[k].toNat ∧ (s[k].toNat : Int) < 97) ∨ (s[k].toNat : Int) < 48 by omega) with h1 | ⟨h1, h2⟩ | h1
        · have d1 : decide ((s[k].toNat : Int) ≤ 122) = false := decide_eq_false (by omega)
          have d2 : decide ((s[k].toNat : Int) ≤ 57) = false := decide_eq_false (by omega)
          clear hc'
          go_wp2
          go_ret
          exact ⟨ret_bool HN.out.symm, rfl⟩
        · have d2 : decide ((s[k].toNat : Int) ≤ 57) = false := decide_eq_false (by omega)
          clear hc'
          go_wp2
          go_ret
          exact ⟨ret_bool HN.out.symm, rfl⟩
        · clear hc'
          go_wp2
          go_ret
          exact ⟨ret_bool HN.out.symm, rfl⟩
    · have HN := Lib.hid (named_yes s (by rw [show s.size = k by omega]; exact A.out))
      go_wp2
      all_goals go_ret
      · exact ⟨ret_bool (by rw [HN.out, decide_eq_true (by omega : 1 ≤ s.size), Bool.true_and]; congr 1; simp; omega), rfl⟩
      · exact ⟨ret_bool (by rw [HN.out, decide_eq_false (by omega : ¬ 1 ≤ s.size)]; rfl), rfl⟩
/-- a pod, as data -/
structure Pd where
  id : ByteArray
  prio : Int
  crit : Bool
  q0 : Int
  q1 : Int
  q2 : Int
  l0 : Int
  l1 : Int
  l2 : Int
  image : ByteArray
  size : Int

abbrev Pd.cells (p : Pd) : Array Value := #[.string p.id, .int .i64 p.prio, .bool p.crit, .int .i64 p.q0, .int .i64 p.q1, .int .i64 p.q2, .int .i64 p.l0, .int .i64 p.l1, .int .i64 p.l2, .string p.image, .int .i64 p.size]

/-- its numbers are int64s, its texts have lengths -/
structure Pd.Wf (p : Pd) : Prop where
  prio : I64 p.prio
  q0 : I64 p.q0
  q1 : I64 p.q1
  q2 : I64 p.q2
  l0 : I64 p.l0
  l1 : I64 p.l1
  l2 : I64 p.l2
  size : I64 p.size
  id : p.id.size ≤ 9223372036854775807
  image : p.image.size ≤ 9223372036854775807

/-- a request and a limit that may not be -/
def bad (q l : Int) : Bool := decide (q < 0) || (decide (l < 0) || (decide (0 < l) && decide (l < q)))
def Pd.amountsOk (p : Pd) : Bool := !bad p.q0 p.l0 && (!bad p.q1 p.l1 && !bad p.q2 p.l2)
def Pd.rest (p : Pd) : Bool := decide (-1073741824 ≤ p.prio) && (decide (p.prio ≤ 1073741824) && decide (0 ≤ p.size))
def Pd.right (p : Pd) : Bool := p.amountsOk && (named p.id.data.toList && (named p.image.data.toList && p.rest))
def Pd.small (p : Pd) : Bool := decide (p.id.size ≤ 60) && decide (p.image.size ≤ 60)

/-- the first k amounts are good -/
def Pd.okTo (p : Pd) (k : Nat) : Bool := (decide (k ≤ 0) || !bad p.q0 p.l0) && ((decide (k ≤ 1) || !bad p.q1 p.l1) && (decide (k ≤ 2) || !bad p.q2 p.l2))

theorem Pd.okTo_zero (p : Pd) : p.okTo 0 = true := by simp [Pd.okTo]
theorem Pd.okTo_one (p : Pd) (h : bad p.q0 p.l0 = false) : p.okTo 1 = true := by simp [Pd.okTo, h]
theorem Pd.okTo_two (p : Pd) (h0 : p.okTo 1 = true) (h : bad p.q1 p.l1 = false) : p.okTo 2 = true := by simp [Pd.okTo, h] at h0 ⊢; exact h0
theorem Pd.okTo_three (p : Pd) (h0 : p.okTo 2 = true) (h : bad p.q2 p.l2 = false) : p.okTo 3 = true := by simp [Pd.okTo, h] at h0 ⊢; exact h0
theorem Pd.ok_of_three (p : Pd) (h : p.okTo 3 = true) : p.amountsOk = true := by simpa [Pd.okTo, Pd.amountsOk] using h
theorem Pd.bad_zero (p : Pd) (h : bad p.q0 p.l0 = true) : p.right = false := by simp [Pd.right, Pd.amountsOk, h]
theorem Pd.bad_one (p : Pd) (h : bad p.q1 p.l1 = true) : p.right = false := by simp [Pd.right, Pd.amountsOk, h]
theorem Pd.bad_two (p : Pd) (h : bad p.q2 p.l2 = true) : p.right = false := by simp [Pd.right, Pd.amountsOk, h]

theorem bad_cases (q l : Int) : (bad q l = true ∧ (q < 0 ∨ (0 ≤ q ∧ l < 0) ∨ (0 ≤ q ∧ 0 < l ∧ l < q))) ∨ (bad q l = false ∧ 0 ≤ q ∧ (l = 0 ∨ (0 < l ∧ q ≤ l))) := by
  unfold bad
  by_cases h1 : q < 0 <;> by_cases h2 : l < 0 <;> by_cases h3 : 0 < l <;> by_cases h4 : l < q <;> simp [h1, h2, h3, h4] <;> omega

theorem idx3_0 (x0 x1 x2 : Value) (w : World) : (Instr.index 29 (.agg #[x0, x1, x2]) (.int .i64 0)).run Tryd.prog w = .ok x0 w := by kernel_rfl
theorem idx3_1 (x0 x1 x2 : Value) (w : World) : (Instr.index 29 (.agg #[x0, x1, x2]) (.int .i64 1)).run Tryd.prog w = .ok x1 w := by kernel_rfl
theorem idx3_2 (x0 x1 x2 : Value) (w : World) : (Instr.index 29 (.agg #[x0, x1, x2]) (.int .i64 2)).run Tryd.prog w = .ok x2 w := by kernel_rfl
attribute [go_sem] idx3_0 idx3_1 idx3_2


end Go.Proofs.YtampjkgkiooibaaDoor
