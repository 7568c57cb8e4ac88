/- The saturating sum: the program's sat.Add and the reference's bilgeref01.Add both give satAdd. -/
import Derived.Test.YtkpcinkpdonihaaDoorProg
import Derived.Test.YtkpcinkpdonihaaDoorBase
namespace Go.Proofs.YtkpcinkpdonihaaDoor
open Go.RowKit

/-- the greatest number -/
def most : Int := 9223372036854775807
/-- a number as the layer 1 reads it -/
def nat0 (a : Int) : Int := if a < 0 then 0 else a
/-- the saturating sum -/
def satAdd (a b : Int) : Int := if nat0 a + nat0 b ≤ most then nat0 a + nat0 b else most
theorem nat0_bd (a : Int) (h : I64 a) : 0 ≤ nat0 a ∧ nat0 a ≤ 9223372036854775807 := by
  unfold I64 at h
  unfold nat0; split <;> omega
theorem satAdd_bd (a b : Int) (ha : I64 a) (hb : I64 b) : 0 ≤ satAdd a b ∧ satAdd a b ≤ 9223372036854775807 := by
  have := nat0_bd a ha; have := nat0_bd b hb; unfold satAdd most; split <;> omega
theorem satAdd_I64 (a b : Int) (ha : I64 a) (hb : I64 b) : I64 (satAdd a b) := by
  have := satAdd_bd a b ha hb; unfold I64; omega

theorem number_any (a : Int) (w : World) (ha : I64 a) :
    Calls Tryd.prog 28 #[.int .i64 a] w fun e w' => e = .returned (.int .i64 (nat0 a)) ∧ w = w' := by
  obtain ⟨h1, h2⟩ := ha
  go_enter Tryd.func28, Tryd.ntmps28
  go_wp2
  all_goals go_ret
  all_goals exact ⟨ret_int (by unfold nat0; split <;> omega), rfl⟩

theorem add_any (a b : Int) (w : World) (ha : I64 a) (hb : I64 b) :
    Calls Tryd.prog 19 #[.int .i64 a, .int .i64 b] w fun e w' => e = .returned (.int .i64 (satAdd a b)) ∧ w = w' := by
  have h1 := nat0_bd a ha
  have h2 := nat0_bd b hb
  obtain ⟨h11, h12⟩ := h1
  obtain ⟨h21, h22⟩ := h2
  go_enter Tryd.func19, Tryd.ntmps19
  go_wp2_with fail
  refine (number_any a _ ha).mono ?_; rintro e w' ⟨rfl, rfl⟩
  go_wp2_with fail
  refine (number_any b _ hb).mono ?_; rintro e w' ⟨rfl, rfl⟩
  go_wp2_with fail
  all_goals go_ret
  all_goals exact ⟨ret_int (by unfold satAdd most; split <;> omega), rfl⟩


/-- what the reference hands back of an unsigned sum -/
def heldOf (n : Int) : Int := if n ≤ most then n else most

end Go.Proofs.YtkpcinkpdonihaaDoor
