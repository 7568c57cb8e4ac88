/- The saturating sum: the program's sat.Add and the reference's bilgeref01.Add both give satAdd. -/
import Derived.Test.YtlhmhcidknadmaaGreatDoorProg
import Derived.Test.YtlhmhcidknadmaaGreatDoorBase
namespace Go.Proofs.YtlhmhcidknadmaaGreatDoor
open Go.RowKit

/-- the greatest number -/
def most : Int := 9223372036854775807
/-- a number as the layer 1 reads it -/
def nat0 (a : Int) : Int := if a < 0 then 0 else a
/-- the saturating sum -/
def satAdd (a b : Int) : Int := if nat0 a + nat0 b ≤ most then nat0 a + nat0 b else most
theorem nat0_bd (a : Int) (h : I64 a) : 0 ≤ nat0 a ∧ nat0 a ≤ 9223372036854775807 := by
  unfold I64 at h
  unfold nat0; split <;> omega
theorem satAdd_bd (a b : Int) (ha : I64 a) (hb : I64 b) : 0 ≤ satAdd a b ∧ satAdd a b ≤ 9223372036854775807 := by
  have := nat0_bd a ha; have := nat0_bd b hb; unfold satAdd most; split <;> omega
theorem satAdd_I64 (a b : Int) (ha : I64 a) (hb : I64 b) : I64 (satAdd a b) := by
  have := satAdd_bd a b ha hb; unfold I64; omega

theorem number_any (a : Int) (w : World) (ha : I64 a) :
    Calls Tryz.prog 87 #[.int .i64 a] w fun e w' => e = .returned (.int .i64 (nat0 a)) ∧ w = w' := by
  obtain ⟨h1, h2⟩ := ha
  go_enter Tryz.func87, Tryz.ntmps87
  go_wp2
  all_goals go_ret
  all_goals exact ⟨ret_int (by unfold nat0; split <;> omega), rfl⟩

theorem add_any (a b : Int) (w : World) (ha : I64 a) (hb : I64 b) :
    Calls Tryz.prog 61 #[.int .i64 a, .int .i64 b] w fun e w' => e = .returned (.int .i64 (satAdd a b)) ∧ w = w' := by
  have h1 := nat0_bd a ha
  have h2 := nat0_bd b hb
  obtain ⟨h11, h12⟩ := h1
  obtain ⟨h21, h22⟩ := h2
  go_enter Tryz.func61, Tryz.ntmps61
  go_wp2_with fail
  refine (number_any a _ ha).mono ?_; rintro e w' ⟨rfl, rfl⟩
  go_wp2_with fail
  refine (number_any b _ hb).mono ?_; rintro e w' ⟨rfl, rfl⟩
  go_wp2_with fail
  all_goals go_ret
  all_goals exact ⟨ret_int (by unfold satAdd most; split <;> omega), rfl⟩

/-- the reference's number, as a uint64 -/
theorem refNumber_any (a : Int) (w : World) (ha : I64 a) :
    Calls Tryz.prog 95 #[.int .i64 a] w fun e w' => e = .returned (.int .u64 (nat0 a)) ∧ w = w' := by
  obtain ⟨h1, h2⟩ := ha
  by_cases h : a < 0
  · go_enter Tryz.func95, Tryz.ntmps95
    go_wp2
    go_ret
    exact ⟨ret_int (by unfold nat0; split <;> omega), rfl⟩
  · have h' : 0 ≤ a := by omega
    go_enter Tryz.func95, Tryz.ntmps95
    go_wp2
    go_ret
    exact ⟨ret_int (by unfold nat0; split <;> omega), rfl⟩

/-- what the reference hands back of an unsigned sum -/
def heldOf (n : Int) : Int := if n ≤ most then n else most
theorem held_any (n : Int) (w : World) (h0 : 0 ≤ n) (h1 : n ≤ 18446744073709551614) :
    Calls Tryz.prog 94 #[.int .u64 n] w fun e w' => e = .returned (.int .i64 (heldOf n)) ∧ w = w' := by
  by_cases h : 9223372036854775807 < n
  · go_enter Tryz.func94, Tryz.ntmps94
    go_wp2
    go_ret
    exact ⟨ret_int (by unfold heldOf most; split <;> omega), rfl⟩
  · have h' : n ≤ 9223372036854775807 := by omega
    go_enter Tryz.func94, Tryz.ntmps94
    go_wp2
    go_ret
    exact ⟨ret_int (by unfold heldOf most; split <;> omega), rfl⟩

theorem refAdd_any (a b : Int) (w : World) (ha : I64 a) (hb : I64 b) :
    Calls Tryz.prog 73 #[.int .i64 a, .int .i64 b] w fun e w' => e = .returned (.int .i64 (satAdd a b)) ∧ w = w' := by
  have h1 := nat0_bd a ha
  have h2 := nat0_bd b hb
  obtain ⟨h11, h12⟩ := h1
  obtain ⟨h21, h22⟩ := h2
  have hw : IntKind.u64.wrap (nat0 a + nat0 b) = nat0 a + nat0 b := by simp [IntKind.wrap, IntKind.bits, IntKind.signed]; omega
  go_enter Tryz.func73, Tryz.ntmps73
  go_wp2_with fail
  refine (refNumber_any a _ ha).mono ?_; rintro e w' ⟨rfl, rfl⟩
  go_wp2_with fail
  refine (refNumber_any b _ hb).mono ?_; rintro e w' ⟨rfl, rfl⟩
  go_wp2_with fail
  refine (held_any _ _ (by omega) (by omega)).mono ?_; rintro e w' ⟨rfl, rfl⟩
  go_wp2_with fail
  go_ret
  exact ⟨rfl, rfl⟩
end Go.Proofs.YtlhmhcidknadmaaGreatDoor
